/-
  Regions whose order is drawn, continued: operations on the frame alone are taken first (set H), then a quiet head, then a tail that waits for what is left of the head. No conditions: for every program.
-/
import Derived.Test.YticinfoljhlnbaaGreatDoorSxDraw
namespace Go.Sx
open Go.RowKit
set_option linter.unusedVariables false

section
variable {P : Program} {ops : Array Oper} {C : World → Prop}

/-- Each of the head is done at the start, or one up to n waits for it. -/
def sink2 (ops : Array Oper) (n : Nat) (done0 : Array Bool) : Bool :=
  (List.range n).all fun i => done0.getD i false || (List.range (n + 1)).any fun j => decide (i < j) && Region.waitsFor .any ops j i
structure Inv2 (ops : Array Oper) (n : Nat) (done0 done : Array Bool) : Prop where
  base : HeadInv .any ops n done
  keep : ∀ i, done0.getD i false = true → done.getD i false = true
theorem Inv2.set {n i : Nat} {done0 done : Array Bool} (inv : Inv2 ops n done0 done) (hi : i ∈ Region.ready .any ops done) (hin : i < n) : Inv2 ops n done0 (done.setIfInBounds i true) :=
  ⟨inv.base.set hi hin, fun j hj => getD_set_true (inv.keep j hj)⟩
theorem waits2 {n : Nat} {done0 done : Array Bool} (hs : sink2 ops n done0 = true) (hc : Region.chainB .any ops n = true) (hn : n < ops.size) (inv : Inv2 ops n done0 done) :
    ∀ (d i : Nat), n - i ≤ d → i < n → done.getD i true = false → ∀ t, n ≤ t → t ∉ Region.ready .any ops done := by
  have noWait : ∀ j oj i, ops[j]? = some oj → (∃ e ∈ oj.after, Region.binds .any e = true ∧ e.on = i) → done.getD i true = false → j ∉ Region.ready .any ops done ∧ done.getD j false = false := by
    rintro j oj i hoj ⟨e, he, hb, rfl⟩ hun
    have hf := getD_both hun
    refine ⟨fun hr => ?_, ?_⟩
    · obtain ⟨_, o2, ho2, hall⟩ := mem_ready.1 hr
      obtain rfl := Option.some.inj (hoj.symm.trans ho2)
      rw [hall e he hb] at hf; cases hf
    · cases hl : done.getD j false with
      | false => rfl
      | true => rw [inv.base.closed j oj hoj hl e he hb] at hf; cases hf
  intro d
  induction d with
  | zero => intro i hd hi; omega
  | succ d ih =>
    intro i hd hi hun t ht hr
    have h1 := List.all_eq_true.1 hs i (List.mem_range.2 hi)
    have hk : done0.getD i false = false := by
      cases hk : done0.getD i false with
      | false => rfl
      | true => have := inv.keep i hk; rw [getD_both hun] at this; cases this
    rw [hk, Bool.false_or] at h1
    obtain ⟨j, hj, hj2⟩ := List.any_eq_true.1 h1
    simp only [Bool.and_eq_true, decide_eq_true_eq] at hj2
    obtain ⟨oj, hoj, hwt⟩ := Region.waitsFor_spec hj2.2
    have hjn : j ≤ n := Nat.lt_succ_iff.1 (List.mem_range.1 hj)
    obtain ⟨hnr, hlj⟩ := noWait j oj i hoj hwt hun
    have hju : done.getD j true = false := getD_in (by rw [inv.base.size]; omega) hlj
    rcases Nat.lt_or_ge j n with hjl | hjl
    · exact ih j (by omega) hjl hju t ht hr
    · obtain rfl : j = n := by omega
      -- what lies behind n waits for its neighbour, which is not done
      rcases Nat.lt_or_ge j t with htn | htn
      · obtain ⟨_, ot, hot, _⟩ := mem_ready.1 hr
        have htl := (Array.getElem?_eq_some_iff.1 hot).1
        have h2 := List.all_eq_true.1 hc t (List.mem_range.2 htl)
        simp only [Bool.or_eq_true, decide_eq_true_eq] at h2
        rcases h2 with h2 | h2
        · omega
        · obtain ⟨o3, ho3, hw3⟩ := Region.waitsFor_spec h2
          exact (noWait t o3 (t - 1) ho3 hw3 (inv.base.tail (t - 1) (by omega) (by omega))).1 hr
      · obtain rfl : t = j := by omega
        exact hnr hr

theorem Heads.first2 {n i : Nat} {oi : Oper} {v : Value} {T : Array Bool → Act → Prop} {done0 : Array Bool} (hi : ops[i]? = some oi) (hsel : ∀ (j : Nat) (o : Oper) cs b, ops[j]? = some o → o.op ≠ .select cs b)
    (hs : sink2 ops n done0 = true) (hc : Region.chainB .any ops n = true) (hn : n < ops.size) (hin : i < n) (hT : ∀ done a, T done a → ∀ j ∈ Region.ready .any ops done, n ≤ j) (f : Nat) :
    ∀ (done : Array Bool) (a : Act), Inv2 ops n done0 done →
      (∀ j oj, ops[j]? = some oj → j ≠ i → done.getD j true = false → (∀ e ∈ oj.after, Region.binds .any e = true → e.on ≠ i) → oi.apart ops oj = true) →
      i ∈ Region.ready .any ops done → YieldsIn P ops C oi v a → Heads P ops C n T f (done.setIfInBounds i true) (a.put oi.dst v) → Heads P ops C n T (f + 1) done a := by
  induction f with
  | zero =>
    intro done a inv _ hr hy h
    have hbelow : ∀ j ∈ Region.ready .any ops done, j < n := fun j hj => Nat.lt_of_not_le fun hle => waits2 hs hc hn inv _ i (Nat.le_refl _) hin (mem_ready.1 hr).1 j hle hj
    refine ⟨fun h0 => ?_, fun j hj => ⟨hbelow j hj, ?_⟩⟩
    · rw [h0] at hr; simp at hr
    · rcases Nat.decEq j i with hne | heq
      · exact absurd (hT _ _ h j (ready_mono hj hne)) (Nat.not_le.2 (hbelow j hj))
      · subst heq; exact hy.qOp hi h
  | succ f ih =>
    intro done a inv hfree hr hy h
    have hun := (mem_ready.1 hr).1
    have hbelow : ∀ j ∈ Region.ready .any ops done, j < n := fun j hj => Nat.lt_of_not_le fun hle => waits2 hs hc hn inv _ i (Nat.le_refl _) hin hun j hle hj
    refine ⟨fun h0 => ?_, fun j hj => ⟨hbelow j hj, ?_⟩⟩
    · rw [h0] at hr; simp at hr
    · rcases Nat.decEq j i with hne | heq
      · obtain ⟨hjun, oj, hoj, hall⟩ := mem_ready.1 hj
        have hwait : ∀ e ∈ oj.after, Region.binds .any e = true → e.on ≠ i := by
          intro e he hb hon
          have hd := hall e he hb
          rw [hon, getD_both hun] at hd
          exact Bool.noConfusion hd
        have step := qOp_put hoj (hfree j oj hoj hne hjun hwait) (fun cs b => hsel i oi cs b hi) (fun cs b => hsel j oj cs b hoj) hy (h.2 j (ready_mono hj hne)).2
        refine qOp_mono (fun a' h' => ?_) step
        refine ih (done.setIfInBounds j true) a' (inv.set hj (hbelow j hj)) (fun k ok hk hki hku hkw => hfree k ok hk hki ?_ hkw) (ready_mono hr (Ne.symm hne)) h'.1 ?_
        · rcases Nat.decEq j k with hjk | hjk
          · rwa [getD_set_ne true hjk] at hku
          · subst hjk; exact hjun
        · have := h'.2; rwa [Array.setIfInBounds_comm _ _ (Ne.symm hne)] at this
      · subst heq; exact hy.qOp hi h

/-- The head in the order ks. -/
def lex2 (ops : Array Oper) (g n : Nat) : List Nat → Array Bool → Bool
  | [], done => Region.seqB .any ops g n done
  | k :: ks, done => (Region.ready .any ops done).contains k && Region.free .any ops done k && decide (k < n) && lex2 ops g n ks (done.setIfInBounds k true)
theorem Heads.lex2 {n g : Nat} {Z : Act → Prop} {done0 : Array Bool} (hsel : Region.noSelect ops = true) (hs : sink2 ops n done0 = true) (hc : Region.chainB .any ops n = true) (hn : n < ops.size) :
    ∀ (ks : List Nat) (L : List Oper) (done : Array Bool) (a : Act), ks.map (fun k => ops[k]?) = L.map some → Inv2 ops n done0 done →
      Sx.lex2 ops g n ks done = true → wpQuiet P ops C Z L a → Heads P ops C n (fun d a' => Region.seqB .any ops g n d = true ∧ Z a') ks.length done a := by
  intro ks
  induction ks with
  | nil => intro L done a hl inv hB h; obtain rfl : L = [] := by simpa using hl.symm
           exact ⟨hB, h⟩
  | cons k ks ih =>
    intro L done a hl inv hB h
    rcases L with _ | ⟨o, L⟩
    · simp at hl
    simp only [List.map_cons, List.cons.injEq] at hl
    obtain ⟨h0, hl⟩ := hl
    simp only [Sx.lex2, Bool.and_eq_true, decide_eq_true_eq] at hB
    have hr : k ∈ Region.ready .any ops done := List.contains_iff_mem.1 hB.1.1.1
    have hst : qOp P ops C k (wpQuiet P ops C Z L) a := by
      unfold qOp; rw [h0]; exact h
    obtain ⟨v, hy, hK⟩ := yieldsIn_of_qOp h0 hst
    refine Heads.first2 h0 (Region.noSelect_spec hsel) hs hc hn hB.1.2 (fun d a' hL => seqB_ready hL.1) ks.length done a inv (Region.free_spec h0 hB.1.1.2) hr hy ?_
    exact ih L _ _ hl (inv.set hr hB.1.2) hB.2 hK

/-- Operations on the frame alone. -/
def wpFrame (P : Program) (ops : Array Oper) (Z : Act → Prop) : List Oper → Act → Prop
  | [], a => Z a
  | o :: r, a => ∃ v, Yields P ops o v a ∧ wpFrame P ops Z r (a.put o.dst v)
/-- Each of them may come now, apart from all that is left. -/
def hoistB (ops : Array Oper) : List Nat → Array Bool → Option (Array Bool)
  | [], done => some done
  | k :: ks, done => if ((Region.ready .any ops done).contains k && Region.free .any ops done k) = true then hoistB ops ks (done.setIfInBounds k true) else none
def NoDie (Q : Exit → Act → World → Prop) (e : Exit) (a : Act) (w : World) : Prop := (∀ c, e ≠ .panic c) ∧ Q e a w
theorem hoist_any {Q : Exit → Act → World → Prop} {Z : Act → Prop} {n g : Nat} (hsel : Region.noSelect ops = true) : ∀ (hs : List Nat) (L : List Oper) (done done0 : Array Bool) (a : Act) (w : World),
    hs.map (fun k => ops[k]?) = L.map some → hoistB ops hs done = some done0 → (∀ a, Z a → wpAny P .any ops (NoDie Q) g done0 a w) → wpFrame P ops Z L a → wpAny P .any ops (NoDie Q) (hs.length + g) done a w := by
  intro hs
  induction hs with
  | nil => intro L done done0 a w hl hB hz h; obtain rfl : L = [] := by simpa using hl.symm
           simp only [hoistB, Option.some.injEq] at hB; subst hB
           simpa using hz a h
  | cons k ks ih =>
    intro L done done0 a w hl hB hz h
    rcases L with _ | ⟨o, L⟩
    · simp at hl
    simp only [List.map_cons, List.cons.injEq] at hl
    obtain ⟨h0, hl⟩ := hl
    simp only [hoistB] at hB
    split at hB
    · rename_i hb
      simp only [Bool.and_eq_true] at hb
      obtain ⟨v, hy, hK⟩ := h
      have e : (k :: ks).length + g = (ks.length + g) + 1 := by simp; omega
      rw [e]
      exact wpAny_take h0 hsel hb.2 hb.1 (fun c a w hq => absurd rfl (hq.1 c)) hy (ih L _ _ _ w hl hB hz hK)
    · cases hB

theorem hoist_inv {n : Nat} : ∀ (hs : List Nat) (done done0 : Array Bool), hoistB ops hs done = some done0 → (∀ h ∈ hs, h < n) → HeadInv .any ops n done → HeadInv .any ops n done0 := by
  intro hs
  induction hs with
  | nil => intro done done0 hB _ inv; simp only [hoistB, Option.some.injEq] at hB; exact hB ▸ inv
  | cons k ks ih =>
    intro done done0 hB hlt inv
    simp only [hoistB] at hB
    split at hB
    · rename_i hb
      simp only [Bool.and_eq_true] at hb
      exact ih _ _ hB (fun h hh => hlt h (List.mem_cons_of_mem _ hh)) (inv.set (List.contains_iff_mem.1 hb.1) (hlt k List.mem_cons_self))
    · cases hB
def drawB (ops : Array Oper) (hs ks : List Nat) (n : Nat) : Bool :=
  Region.noSelect ops && decide (n < ops.size) && Region.chainB .any ops n && hs.all (fun h => decide (h < n)) && decide (hs.length + ks.length = n) &&
    match hoistB ops hs (Array.replicate ops.size false) with
    | some done0 => sink2 ops n done0 && lex2 ops (ops.size - n) n ks done0
    | none => false
theorem wp_draw {id : Nat} {Q : Exit → Act → World → Prop} {a : Act} {w : World} {L : List Oper} (hs ks : List Nat) (LH LK : List Oper) (n : Nat) (hm : P.follows .mixedOrders = true) (hB : drawB L.toArray hs ks n = true)
    (hH : hs.map (fun k => L.toArray[k]?) = LH.map some) (hK : ks.map (fun k => L.toArray[k]?) = LK.map some)
    (h : wpFrame P L.toArray (wpQuiet P L.toArray C (fun a' => ∀ w', C w' → wpList P L.toArray (NoDie Q) (L.drop n) a' w') LK) LH a) (hCw : C w.drew) : (Code.region id L.toArray true).wp P Q a w := by
  refine Code.wp_mono (Q := NoDie Q) (fun e a w h => h.2) ?_
  simp only [drawB, Bool.and_eq_true, decide_eq_true_eq] at hB
  obtain ⟨⟨⟨⟨⟨hsel, hn⟩, hc⟩, hlt⟩, hlen⟩, hB⟩ := hB
  have hn' : n < L.length := by simpa using hn
  refine wp_region_any hm ?_
  cases hd : hoistB L.toArray hs (Array.replicate L.toArray.size false) with
  | none => rw [hd] at hB; cases hB
  | some done0 =>
    rw [hd] at hB
    simp only [Bool.and_eq_true] at hB
    have inv0 : HeadInv .any L.toArray n (Array.replicate L.toArray.size false) :=
      ⟨by simp, fun j oj _ hl => Bool.noConfusion ((getD_replicate_false _ _).symm.trans hl), fun t _ ht => getD_in (by simpa using ht) (getD_replicate_false _ _)⟩
    have inv1 : Inv2 L.toArray n done0 done0 := ⟨hoist_inv hs _ _ hd (fun x hx => of_decide_eq_true (List.all_eq_true.1 hlt x hx)) inv0, fun i hi => hi⟩
    have hDl : (L.drop n).length = L.length - n := by simp
    have e : L.toArray.size = hs.length + (ks.length + (L.drop n).length) := by rw [hDl]; simp; omega
    have e2 : L.toArray.size - n = (L.drop n).length := by rw [hDl]; simp
    rw [e2] at hB
    rw [e]
    refine hoist_any (Z := wpQuiet P L.toArray C (fun a' => ∀ w', C w' → wpList P L.toArray (NoDie Q) (L.drop n) a' w') LK) (n := n) hsel hs LH _ done0 a w.drew hH (by rw [← e]; exact hd) (fun a hz => ?_) h
    exact Heads.any (Q := NoDie Q) (g := (L.drop n).length) (fun d a' w' hw' hT => wpAny_of_seq (L.drop n) n d a' w' (fun j => by simp) hT.1 (hT.2 w' hw')) ks.length done0 a w.drew hCw
      (Heads.lex2 hsel hB.1 hc hn ks LK done0 a hK inv1 hB.2 hz)
end

section
variable {P : Program} {ops : Array Oper} {Q : Exit → Act → World → Prop} {rest : List Oper} {n : Nat} {l : Env} {w w' : World} {o : Oper} {v : Value} {C : World → Prop} {Z : Act → Prop}
/-- The walk of what is taken first, from a known frame. -/
def Wy (P : Program) (ops : Array Oper) (Z : Act → Prop) (rest : List Oper) (n : Nat) (l : Env) : Prop := ∀ a, Fr n l a → wpFrame P ops Z rest a
theorem Wy_val {d : Tmp} {op : Op} {ty : TypeId} {pos : String} {af : Array Edge} (h1 : ∀ w, Runs P n l { dst := some d, op := op, type := ty, pos := pos, after := af, guard := none } v w) (hd : Nat.blt d n = true)
    (h : Wy P ops Z rest n (.cons d v l)) : Wy P ops Z ({ dst := some d, op := op, type := ty, pos := pos, after := af, guard := none } :: rest) n l := fun a hf =>
  ⟨v, .inl ⟨by simp [Region.wanted], fun w => h1 w a hf⟩, h _ (hf.put (inb_of hd) v)⟩
theorem Wy_end {Zq : Act → Prop} {L : List Oper} (h : Wq P ops C Zq L n l) : Wy P ops (wpQuiet P ops C Zq L) [] n l := fun a hf => h a hf
theorem K_draw {id : Nat} {L : List Oper} {w0 : World} {M F : Heap} (hs ks : List Nat) (m : Nat) (LH LK LT : List Oper) (hm : P.follows .mixedOrders = true) (hp : Hp w0 M F w) (hC : C w.drew) (hB : drawB L.toArray hs ks m = true)
    (hH : hs.map (fun k => L.toArray[k]?) = LH.map some) (hK : ks.map (fun k => L.toArray[k]?) = LK.map some) (hT : L.drop m = LT)
    (h : Wy P L.toArray (wpQuiet P L.toArray C (fun a' => ∀ w', C w' → wpList P L.toArray (NoDie Q) LT a' w') LK) LH n l) : K P (.region id L.toArray true) Q n l w := fun a hf => by
  subst hT
  exact wp_draw hs ks LH LK m hm hB hH hK (h a hf) hC
theorem N_nodie (h : N Q .normal n l w) : N (NoDie Q) .normal n l w := fun a hf => ⟨fun c e => (by cases e), h a hf⟩
end
end Go.Sx
