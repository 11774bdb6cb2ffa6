/-
  Maps whose keys are texts: made, written, read. No conditions: for every program.
-/
import Derived.Test.YticinfoljhlnbaaGreatDoorSxMem
import Derived.MapKept
namespace Go.Sx
open Go.MapKept
set_option linter.unusedVariables false
set_option linter.unusedSimpArgs false
abbrev Ent := List UInt8 × Value
/-- What a map object holds, in its own order. -/
def MapO (o : Obj) (L : List Ent) : Prop := ∃ es clock, o = .map es clock ∧ es.toList.map (fun e => (e.key, e.val)) = (L.map fun p => (Value.string ⟨p.1.toArray⟩, p.2)) ∧ MapKept.Stamped es clock
def getM : List Ent → List UInt8 → Option Value
  | [], _ => none
  | p :: L, k => if p.1 = k then some p.2 else getM L k
def putM : List Ent → List UInt8 → Value → List Ent
  | [], k, v => [(k, v)]
  | p :: L, k, v => if p.1 = k then (k, v) :: L else p :: putM L k v
theorem getM_put (L : List Ent) (k j : List UInt8) (v : Value) : getM (putM L k v) j = if k = j then some v else getM L j := by
  induction L with
  | nil => rfl
  | cons p L ih =>
    unfold putM
    by_cases h : p.1 = k
    · rw [if_pos h]
      show (if k = j then some v else getM L j) = _
      by_cases hj : k = j
      · rw [if_pos hj, if_pos hj]
      · rw [if_neg hj, if_neg hj]; show _ = (if p.1 = j then some p.2 else getM L j); rw [if_neg (fun e => hj (h ▸ e))]
    · rw [if_neg h]
      show (if p.1 = j then some p.2 else getM (putM L k v) j) = _
      rw [ih]
      by_cases hj : k = j
      · subst hj; rw [if_neg h, if_pos rfl, if_pos rfl]
      · rw [if_neg hj, if_neg hj]; rfl
theorem same_str (a b : List UInt8) : Instr.sameNow .string (.string ⟨a.toArray⟩) (.string ⟨b.toArray⟩) = some (decide (a = b)) := by
  show some ((⟨a.toArray⟩ : ByteArray) == ⟨b.toArray⟩) = _
  congr 1
  refine Bool.eq_iff_iff.2 ?_
  rw [bytes_beq, decide_eq_true_eq]
  constructor
  · intro h; have := congrArg (fun x : ByteArray => x.data.toList) h; simpa using this
  · intro h; rw [h]
theorem find_ents (k : List UInt8) : ∀ (es : List MapEntry) (L : List Ent) (i : Nat), es.map (fun e => (e.key, e.val)) = L.map (fun p => (Value.string ⟨p.1.toArray⟩, p.2)) →
    (Instr.findNow .string (.string ⟨k.toArray⟩) es i = some none ∧ getM L k = none ∧ ∀ v, putM L k v = L ++ [(k, v)]) ∨
    ∃ j v0, Instr.findNow .string (.string ⟨k.toArray⟩) es i = some (some (i + j, v0)) ∧ getM L k = some v0 ∧ j < es.length ∧ (∀ v, putM L k v = L.set j (k, v)) ∧ (es[j]?).map (·.key) = some (.string ⟨k.toArray⟩)
  | [], [], i, _ => .inl ⟨rfl, rfl, fun _ => rfl⟩
  | [], _ :: _, _, h => by simp at h
  | _ :: _, [], _, h => by simp at h
  | e :: es, p :: L, i, h => by
    simp only [List.map_cons, List.cons.injEq, Prod.mk.injEq] at h
    obtain ⟨⟨h1, h2⟩, h3⟩ := h
    have hs := same_str k p.1
    rw [← h1] at hs
    by_cases hk : p.1 = k
    · rw [decide_eq_true hk.symm] at hs
      refine .inr ⟨0, e.val, by simp [Instr.findNow, hs], by rw [h2]; simp [getM, hk], by simp, fun v => by simp [putM, hk], by simp [h1, hk]⟩
    · rw [decide_eq_false (fun e => hk e.symm)] at hs
      rcases find_ents k es L (i + 1) h3 with ⟨a, b, c⟩ | ⟨j, v0, a, b, c, d, f⟩
      · exact .inl ⟨by simp [Instr.findNow, hs, a], by simp [getM, hk, b], fun v => by simp [putM, hk, c v]⟩
      · exact .inr ⟨j + 1, v0, by simp [Instr.findNow, hs, a]; omega, by simp [getM, hk, b], by simpa using c, fun v => by simp [putM, hk, d v], by simpa using f⟩
theorem MapO.new (clock : Nat) : MapO (.map #[] clock) [] := ⟨#[], clock, rfl, rfl, MapKept.stamped_empty clock⟩
theorem getM_none {k : List UInt8} : ∀ {L : List Ent}, getM L k = none → ∀ p ∈ L, p.1 ≠ k
  | [], _, p, hp => by cases hp
  | q :: L, h, p, hp => by
    unfold getM at h
    by_cases e : q.1 = k
    · rw [if_pos e] at h; cases h
    · rw [if_neg e] at h
      rcases List.mem_cons.1 hp with rfl | hp
      · exact e
      · exact getM_none h p hp
theorem ents_fresh {es : Array MapEntry} {L : List Ent} {k : List UInt8} (he : es.toList.map (fun e => (e.key, e.val)) = L.map fun p => (Value.string ⟨p.1.toArray⟩, p.2)) (h : getM L k = none) : ∀ x ∈ es.toList, x.key ≠ .string ⟨k.toArray⟩ := fun x hx e => by
  have hm := List.mem_map_of_mem (f := fun e : MapEntry => (e.key, e.val)) hx
  rw [he] at hm
  obtain ⟨p, hp, hpe⟩ := List.mem_map.1 hm
  have h1 : Value.string ⟨p.1.toArray⟩ = x.key := congrArg Prod.fst hpe
  rw [e] at h1
  have h2 : p.1 = k := by simpa using h1
  exact getM_none h p hp h2
section
variable {P : Program} {ops : Array Oper} {Q : Exit → Act → World → Prop} {rest : List Oper} {n : Nat} {l : Env} {w0 w : World} {M F : Heap}
variable {d : Tmp} {ty : TypeId} {pos : String} {af : Array Edge}
theorem run_mapset {t kt et : TypeId} {b : Nat} {o : Obj} {L : List Ent} {k : List UInt8} {v : Value} (hb : w.heap[b]? = some o) (hm : MapO o L) (ht : P.underlying t = some (.map kt et)) (hk : P.underlying kt = some .string) :
    ∃ o', MapO o' (putM L k v) ∧ (Instr.mapUpdate t (.map (some b)) (.string ⟨k.toArray⟩) v).run P w = .ok () { w with heap := w.heap.setIfInBounds b o' } := by
  obtain ⟨es, clock, rfl, he, hst0⟩ := hm
  have hi : IsKey .string (.string ⟨k.toArray⟩ : Value) := by simp [IsKey]
  have hc := run_checkKey (P := P) (w := w) hk hi false 9999
  rcases find_ents k es.toList L 0 he with ⟨h1, h2, h3⟩ | ⟨j, v0, h1, _, hj, h3, hkey⟩
  · refine ⟨.map (es.push { key := .string ⟨k.toArray⟩, val := v, born := clock }) (clock + 1), ⟨_, _, rfl, ?_, MapKept.stamped_push hst0 (ents_fresh he h2)⟩, ?_⟩
    · rw [h3, Array.toList_push, List.map_append, List.map_append, he]; rfl
    · simp [Instr.mapUpdate, run_underlying ht, MapKept.run_getObj_map hb, hc, run_findKey hk h1, MapKept.run_setObj_map _ hb, Result.andThen]
  · rw [Nat.zero_add] at h1
    have hjs : j < es.size := by simpa using hj
    have hkj : es[j].key = .string ⟨k.toArray⟩ := by
      rw [Array.getElem?_toList, Array.getElem?_eq_getElem hjs] at hkey; simpa using hkey
    refine ⟨.map (es.modify j fun e => { e with key := .string ⟨k.toArray⟩, val := v }) clock, ⟨_, _, rfl, ?_, MapKept.stamped_modify hst0 j _ (fun e _ => rfl) (fun e he2 hj2 => by rw [Array.getElem?_eq_getElem hjs] at hj2; cases hj2; exact hkj.symm)⟩, ?_⟩
    · rw [h3]
      have : (es.modify j fun e => { e with key := .string ⟨k.toArray⟩, val := v }).toList = es.toList.set j { es[j] with key := .string ⟨k.toArray⟩, val := v } := by
        apply List.ext_getElem?
        intro i
        rw [Array.getElem?_toList, Array.getElem?_modify, List.getElem?_set]
        by_cases hij : j = i
        · subst hij; simp [hjs]
        · simp [hij]
      rw [this, List.map_set, List.map_set, he]
    · have hst : (Instr.keyThatStays (((es[j]?).map (·.key)).getD (.string ⟨k.toArray⟩)) (.string ⟨k.toArray⟩)).run P w = .ok (.string ⟨k.toArray⟩) w := by
        rw [Array.getElem?_eq_getElem hjs]; simp only [Option.map_some, Option.getD_some, hkj]; exact run_keyThatStays hi
      simp [Instr.mapUpdate, run_underlying ht, MapKept.run_getObj_map hb, hc, run_findKey hk h1, hst, MapKept.run_setObj_map _ hb, Result.andThen]
theorem Hp.setO {A B : Heap} {b : Nat} {o o' : Obj} (h : Hp w0 M (A ++ (b, o) :: B) w) : Hp w0 M (A ++ (b, o') :: B) { w with heap := w.heap.setIfInBounds b o' } := by
  have hb := h.own (b, o) (by simp)
  obtain ⟨h2, h3⟩ := heap_set (o' := o') hb
  exact h.set_at (A := M ++ A) (B := B) (b := b) (o := o) (o' := o') (by simp) (by simp) rfl (by simp) rfl rfl rfl (by simp) h2 h3
theorem W_mapset {t kt et : TypeId} {x y z : Operand} {b : Nat} {o : Obj} {L : List Ent} {k : List UInt8} {v : Value} {A B : Heap} (hp : Hp w0 M F w) (hF : F = A ++ (b, o) :: B) (hm : MapO o L) (ht : P.underlying t = some (.map kt et)) (hk : P.underlying kt = some .string)
    (hx : ev l x = some (.map (some b))) (hy : ev l y = some (.string ⟨k.toArray⟩)) (hz : ev l z = some v) (h : ∀ o' w', MapO o' (putM L k v) → Hp w0 M (A ++ (b, o') :: B) w' → W P ops Q rest n l w') :
    W P ops Q ({ dst := none, op := .mapUpdate t x y z, type := ty, pos := pos, after := af, guard := none } :: rest) n l w := by
  subst hF
  obtain ⟨o', h1, h2⟩ := run_mapset (k := k) (v := v) (hp.own (b, o) (by simp)) hm ht hk
  refine W_skip rfl rfl (fun A' hf => ?_) (h _ _ h1 hp.setO)
  simp [execOp, hf.eval hx, hf.eval hy, hf.eval hz, h2]
theorem W_mapins {t kt et : TypeId} {x y z : Operand} {b : Nat} {o : Obj} {L : List Ent} {k : List UInt8} {v : Value} {A B : Heap} (hp : Hp w0 M F w) (hF : F = A ++ (b, o) :: B) (hm : MapO o L) (ht : P.underlying t = some (.map kt et)) (hk : P.underlying kt = some .string)
    (hx : ev l x = some (.map (some b))) (hy : ev l y = some (.string ⟨k.toArray⟩)) (hz : ev l z = some v) (h : ∀ o' w', MapO o' (putM L k v) → Hp w0 M (A ++ (b, o') :: B) w' → W P ops Q rest n l w') :
    W P ops Q ({ dst := none, op := .insert t x y z, type := ty, pos := pos, after := af, guard := none } :: rest) n l w := by
  subst hF
  obtain ⟨o', h1, h2⟩ := run_mapset (k := k) (v := v) (hp.own (b, o) (by simp)) hm ht hk
  refine W_skip rfl rfl (fun A' hf => ?_) (h _ _ h1 hp.setO)
  simp [execOp, hf.eval hx, hf.eval hy, hf.eval hz, h2]
theorem W_makemap {t : TypeId} (hp : Hp w0 M F w) (hd : Nat.blt d n = true) (h : ∀ b o w', MapO o [] → Hp w0 M ((b, o) :: F) w' → W P ops Q rest n (.cons d (.map (some b)) l) w') :
    W P ops Q ({ dst := some d, op := .makeMap t none, type := ty, pos := pos, after := af, guard := none } :: rest) n l w :=
  W_val rfl (inb_of hd) (w' := w.alloc (.map #[] 0)) (v := .map (some w.heap.size)) (fun A hf => by
    simp [execOp, Instr.makeMap]) (h _ _ _ (MapO.new 0) (hp.alloc _))
theorem R_mapget {t kt et : TypeId} {x y : Operand} {b : Nat} {o : Obj} {L : List Ent} {k : List UInt8} {z : Value} (hb : w.heap[b]? = some o) (hm : MapO o L) (ht : P.underlying t = some (.map kt et)) (hk : P.underlying kt = some .string) (hz : zeroV P et = some z)
    (hx : ev l x = some (.map (some b))) (hy : ev l y = some (.string ⟨k.toArray⟩)) :
    Runs P n l { dst := some d, op := .lookup t x y false, type := ty, pos := pos, after := af, guard := none } ((getM L k).getD z) w := fun A hf => by
  obtain ⟨es, clock, rfl, he, hst0⟩ := hm
  have hi : IsKey .string (.string ⟨k.toArray⟩ : Value) := by simp [IsKey]
  have hc := run_checkKey (P := P) (w := w) hk hi es.isEmpty 9999
  rcases find_ents k es.toList L 0 he with ⟨h1, h2, _⟩ | ⟨j, v0, h1, h2, _, _, _⟩
  · simp [execOp, hf.eval hx, hf.eval hy, Instr.lookup, run_underlying ht, MapKept.run_getObj_map hb, hc, run_findKey hk h1, run_zero hz, h2, Result.andThen]
  · simp [execOp, hf.eval hx, hf.eval hy, Instr.lookup, run_underlying ht, MapKept.run_getObj_map hb, hc, run_findKey hk h1, h2, Result.andThen]
/-- A read of a map that is nil. -/
theorem R_mapget_nil {t kt et : TypeId} {x y : Operand} {k : List UInt8} {z : Value} (ht : P.underlying t = some (.map kt et)) (hk : P.underlying kt = some .string) (hz : zeroV P et = some z)
    (hx : ev l x = some (.map none)) (hy : ev l y = some (.string ⟨k.toArray⟩)) :
    Runs P n l { dst := some d, op := .lookup t x y false, type := ty, pos := pos, after := af, guard := none } z w := fun A hf => by
  have hi : IsKey .string (.string ⟨k.toArray⟩ : Value) := by simp [IsKey]
  have hc := run_checkKey (P := P) (w := w) hk hi (#[] : Array MapEntry).isEmpty 9999
  have h1 : Instr.findNow .string (.string ⟨k.toArray⟩) ([] : List MapEntry) 0 = some none := rfl
  simp [execOp, hf.eval hx, hf.eval hy, Instr.lookup, run_underlying ht, run_findKey hk h1, run_zero hz, Result.andThen] at hc ⊢
  simp [hc, run_findKey hk h1, run_zero hz, Result.andThen]
/-- 'a[:]' of an array. -/
theorem R_slice_arr {t e : TypeId} {x : Operand} {m s b o : Nat} (ht : P.underlying t = some (.array m e)) (hs : psize? P e = some s) (hx : ev l x = some (.pointer (some ⟨b, o, none⟩))) :
    Runs P n l { dst := some d, op := .slice t x none none none, type := ty, pos := pos, after := af, guard := none } (.slice (some ⟨b, o, none⟩) m m) w := fun A hf => by
  have e1 : (⟨b, o, none⟩ : Addr).add (0 * s) = ⟨b, o, none⟩ := by simp [Addr.add]
  simp [execOp, hf.eval hx, Instr.sliceAt, Instr.sureAddr, run_underlying ht, Instr.sliceBounds, run_size hs, Addr.add]
end
end Go.Sx
