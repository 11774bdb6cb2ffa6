/-
  Nodes of trees; (*node).find, walked.
-/
import Derived.Test.YticinfoljhlnbaaGreatDoorTreR
import Derived.Test.YticinfoljhlnbaaGreatDoorSxMap
namespace Go.Proofs.YticinfoljhlnbaaGreatDoor
open Go.Sx Go.RowKit
set_option linter.unusedVariables false
set_option linter.unusedSimpArgs false
set_option maxRecDepth 100000

/-! ### Nodes, as they lie in memory -/
structure FileR where
  fb : Nat
  x : FS
  H : Heap
structure NodeR where
  p : Path
  nb : Nat
  kids : Option (Nat × Obj × List Ent)
  file : Option FileR
abbrev ptrV (b : Nat) : Value := .pointer (some ⟨b, 0, none⟩)
def NodeR.kidV (r : NodeR) : Value := match r.kids with
  | none => .map none
  | some q => .map (some q.1)
def NodeR.fileV (r : NodeR) : Value := match r.file with
  | none => .pointer none
  | some q => ptrV q.fb
def NodeR.blocksK (r : NodeR) : Heap := match r.kids with
  | none => []
  | some q => [(q.1, q.2.1)]
def NodeR.blocksF (r : NodeR) : Heap := match r.file with
  | none => []
  | some q => (q.fb, .cells q.x.cells.toArray 39) :: q.H
def NodeR.blk (r : NodeR) : Nat × Obj := (r.nb, .cells [r.kidV, r.fileV].toArray 57)
def NodeR.heap (r : NodeR) : Heap := r.blk :: (r.blocksK ++ r.blocksF)
def treeH (D : List NodeR) : Heap := D.flatMap NodeR.heap
theorem treeH_mid (E1 E2 : List NodeR) (r : NodeR) (R : Heap) : treeH (E1 ++ r :: E2) ++ R = treeH E1 ++ (r.blk :: (r.blocksK ++ (r.blocksF ++ (treeH E2 ++ R)))) := by
  simp [treeH, NodeR.heap, List.append_assoc]
theorem treeH_cons (r : NodeR) (E : List NodeR) : treeH (r :: E) = r.blk :: (r.blocksK ++ (r.blocksF ++ treeH E)) := by
  simp [treeH, NodeR.heap, List.append_assoc]
def kidGet (r : NodeR) (s : List UInt8) : Option Value := match r.kids with
  | none => none
  | some q => getM q.2.2 s
structure WF (D : List NodeR) : Prop where
  maps : ∀ r ∈ D, ∀ q, r.kids = some q → MapO q.2.1 q.2.2
  files : ∀ r ∈ D, ∀ q, r.file = some q → FO q.x q.H
  root : ∃ r ∈ D, r.p = []
  kid1 : ∀ r ∈ D, ∀ s v, kidGet r s = some v → ∃ q ∈ D, q.p = r.p ++ [s] ∧ v = ptrV q.nb
  kid0 : ∀ r ∈ D, ∀ s, kidGet r s = none → ∀ q ∈ D, q.p ≠ r.p ++ [s]
  up : ∀ q ∈ D, ∀ p s, q.p = p ++ [s] → ∃ r ∈ D, r.p = p
  nodup : (D.map (·.p)).Nodup
def findV (D : List NodeR) (p : Path) : Value := match D.find? fun r => decide (r.p = p) with
  | some r => ptrV r.nb
  | none => .pointer none
theorem nodup_inj {D : List NodeR} (h : (D.map (·.p)).Nodup) {r q : NodeR} (hr : r ∈ D) (hq : q ∈ D) (e : r.p = q.p) : r = q := by
  induction D with
  | nil => cases hr
  | cons a D ih =>
    rw [List.map_cons, List.nodup_cons] at h
    rcases List.mem_cons.1 hr with h1 | h1
    · rcases List.mem_cons.1 hq with h2 | h2
      · rw [h1, h2]
      · exact absurd (List.mem_map.2 ⟨q, h2, by rw [← e, h1]⟩) h.1
    · rcases List.mem_cons.1 hq with h2 | h2
      · exact absurd (List.mem_map.2 ⟨r, h1, by rw [e, h2]⟩) h.1
      · exact ih h.2 h1 h2
theorem findV_of {D : List NodeR} (hW : WF D) {r : NodeR} {p : Path} (hr : r ∈ D) (hp : r.p = p) : findV D p = ptrV r.nb := by
  unfold findV
  cases e : D.find? fun r => decide (r.p = p) with
  | none => exact absurd hp (by have := List.find?_eq_none.1 e r hr; simpa using this)
  | some q =>
    have h1 := List.find?_some e
    have h2 := List.mem_of_find?_eq_some e
    rw [nodup_inj hW.nodup h2 hr (by rw [hp]; simpa using h1)]
theorem findV_none {D : List NodeR} {p : Path} (h : ∀ r ∈ D, r.p ≠ p) : findV D p = .pointer none := by
  unfold findV
  rw [List.find?_eq_none.2 (fun r hr => by simp [h r hr])]
theorem find_two (D : List NodeR) (p : Path) : (∃ r ∈ D, r.p = p) ∨ ∀ r ∈ D, r.p ≠ p := by
  by_cases h : ∃ r ∈ D, r.p = p
  · exact .inl h
  · exact .inr fun r hr e => h ⟨r, hr, e⟩
theorem findV_kid {D : List NodeR} (hW : WF D) {r : NodeR} (hr : r ∈ D) (s : List UInt8) : (kidGet r s).getD (.pointer none) = findV D (r.p ++ [s]) := by
  cases e : kidGet r s with
  | none => exact (findV_none (hW.kid0 r hr s e)).symm
  | some v =>
    obtain ⟨q, hq, hqp, rfl⟩ := hW.kid1 r hr s v e
    exact (findV_of hW hq hqp).symm
theorem findV_below {D : List NodeR} (hW : WF D) {p : Path} (h : ∀ r ∈ D, r.p ≠ p) (s : List UInt8) : findV D (p ++ [s]) = .pointer none :=
  findV_none fun q hq e => by obtain ⟨r, hr, hp⟩ := hW.up q hq p s e; exact h r hr hp
/-- What lies in the memory. -/
def Holds (w : World) (H : Heap) : Prop := ∀ x ∈ H, w.heap[x.1]? = some x.2
theorem Holds.keep {w0 w : World} {H F : Heap} (h : Holds w0 H) (hp : Hp w0 [] F w) : Holds w H := fun x hx => by
  have h1 := h x hx
  rw [hp.old x.1 (Array.getElem?_eq_some_iff.1 h1).1 (by simp)]; exact h1
theorem hpHolds {w0 w : World} {M H F : Heap} (hp : Hp w0 M F w) (h : ∀ x ∈ H, x ∈ F) : Holds w H := fun x hx => hp.own x (List.mem_append_right _ (h x hx))
theorem blk_mem {D : List NodeR} {r : NodeR} (hr : r ∈ D) : r.blk ∈ treeH D := List.mem_flatMap.2 ⟨r, hr, List.mem_cons_self⟩
theorem kmap_mem {D : List NodeR} {r : NodeR} (hr : r ∈ D) {q : Nat × Obj × List Ent} (hq : r.kids = some q) : (q.1, q.2.1) ∈ treeH D := List.mem_flatMap.2 ⟨r, hr, by simp [NodeR.heap, NodeR.blocksK, hq]⟩
theorem node_kid {w : World} {D : List NodeR} (h : Holds w (treeH D)) {r : NodeR} (hr : r ∈ D) : w.cell? ⟨r.nb, 0, none⟩ = some r.kidV := cell_of_block (h r.blk (blk_mem hr)) rfl
theorem node_file {w : World} {D : List NodeR} (h : Holds w (treeH D)) {r : NodeR} (hr : r ∈ D) : w.cell? ⟨r.nb, 1, none⟩ = some r.fileV := cell_of_block (h r.blk (blk_mem hr)) rfl
section
variable {n : Nat} {l : Env} {w : World} {d : Tmp} {ty : TypeId} {pos : String} {af : Array Edge}
theorem R_kids {D : List NodeR} {r : NodeR} {s : List UInt8} {t kt et : TypeId} {x y : Operand} (hW : WF D) (h : Holds w (treeH D)) (hr : r ∈ D) (ht : (Tryz.prog).underlying t = some (.map kt et)) (hk : (Tryz.prog).underlying kt = some .string) (hz : zeroV Tryz.prog et = some (.pointer none))
    (hx : ev l x = some r.kidV) (hy : ev l y = some (.string ⟨s.toArray⟩)) :
    Runs Tryz.prog n l { dst := some d, op := .lookup t x y false, type := ty, pos := pos, after := af, guard := none } (findV D (r.p ++ [s])) w := by
  rw [← findV_kid hW hr s]
  unfold NodeR.kidV at hx
  unfold kidGet
  cases e : r.kids with
  | none => rw [e] at hx; exact R_mapget_nil ht hk hz hx hy
  | some q =>
    rw [e] at hx
    exact R_mapget (h _ (kmap_mem hr e)) (hW.maps r hr q e) ht hk hz hx hy
end
/-! Nodes replaced, and put in -/
theorem mem_mid {E1 E2 : List NodeR} {r q : NodeR} : q ∈ E1 ++ r :: E2 ↔ q = r ∨ q ∈ E1 ++ E2 := by
  simp only [List.mem_append, List.mem_cons]
  constructor
  · rintro (h | h | h)
    · exact .inr (.inl h)
    · exact .inl h
    · exact .inr (.inr h)
  · rintro (h | h | h)
    · exact .inr (.inl h)
    · exact .inl h
    · exact .inr (.inr h)
theorem mid_p {E1 E2 : List NodeR} {r r' : NodeR} (hp : r'.p = r.p) : (E1 ++ r' :: E2).map (·.p) = (E1 ++ r :: E2).map (·.p) := by simp [hp]
theorem mid_ex {E1 E2 : List NodeR} {r r' : NodeR} (hp : r'.p = r.p) (hb : r'.nb = r.nb) {p : Path} {v : Value} (h : ∃ q ∈ E1 ++ r :: E2, q.p = p ∧ v = ptrV q.nb) : ∃ q ∈ E1 ++ r' :: E2, q.p = p ∧ v = ptrV q.nb := by
  obtain ⟨q, hq, h1, h2⟩ := h
  rcases mem_mid.1 hq with rfl | hq
  · exact ⟨r', mem_mid.2 (.inl rfl), by rw [hp]; exact h1, by rw [hb]; exact h2⟩
  · exact ⟨q, mem_mid.2 (.inr hq), h1, h2⟩
theorem mid_ps {E1 E2 : List NodeR} {r r' : NodeR} (hp : r'.p = r.p) {p : Path} (h : ∃ q ∈ E1 ++ r :: E2, q.p = p) : ∃ q ∈ E1 ++ r' :: E2, q.p = p := by
  obtain ⟨q, hq, h1⟩ := h
  rcases mem_mid.1 hq with rfl | hq
  · exact ⟨r', mem_mid.2 (.inl rfl), by rw [hp]; exact h1⟩
  · exact ⟨q, mem_mid.2 (.inr hq), h1⟩
theorem mid_no {E1 E2 : List NodeR} {r r' : NodeR} (hp : r'.p = r.p) {p : Path} (h : ∀ q ∈ E1 ++ r :: E2, q.p ≠ p) : ∀ q ∈ E1 ++ r' :: E2, q.p ≠ p := fun q hq e => by
  obtain ⟨q', hq', e'⟩ := mid_ps (r := r') (r' := r) hp.symm ⟨q, hq, e⟩
  exact h q' hq' e'
theorem wf_mid {E1 E2 : List NodeR} {r r' : NodeR} (hW : WF (E1 ++ r :: E2)) (hp : r'.p = r.p) (hb : r'.nb = r.nb) (hk : ∀ s, kidGet r' s = kidGet r s) (hm : ∀ q, r'.kids = some q → MapO q.2.1 q.2.2) (hf : ∀ q, r'.file = some q → FO q.x q.H) : WF (E1 ++ r' :: E2) where
  maps := fun q hq => by
    rcases mem_mid.1 hq with rfl | hq
    · exact hm
    · exact hW.maps q (mem_mid.2 (.inr hq))
  files := fun q hq => by
    rcases mem_mid.1 hq with rfl | hq
    · exact hf
    · exact hW.files q (mem_mid.2 (.inr hq))
  root := mid_ps hp hW.root
  kid1 := fun q hq s v hv => by
    rcases mem_mid.1 hq with rfl | hq
    · rw [hk] at hv
      rw [hp]
      exact mid_ex hp hb (hW.kid1 r (mem_mid.2 (.inl rfl)) s v hv)
    · exact mid_ex hp hb (hW.kid1 q (mem_mid.2 (.inr hq)) s v hv)
  kid0 := fun q hq s hv => by
    rcases mem_mid.1 hq with rfl | hq
    · rw [hk] at hv
      rw [hp]
      exact mid_no hp (hW.kid0 r (mem_mid.2 (.inl rfl)) s hv)
    · exact mid_no hp (hW.kid0 q (mem_mid.2 (.inr hq)) s hv)
  up := fun q hq p s e => by
    obtain ⟨q', hq', e'⟩ := mid_ps (r := r') (r' := r) hp.symm ⟨q, hq, e⟩
    exact mid_ps hp (hW.up q' hq' p s e')
  nodup := by rw [mid_p hp]; exact hW.nodup
theorem wf_kids {E1 E2 : List NodeR} {r : NodeR} (hW : WF (E1 ++ r :: E2)) (hk : r.kids = none) {mb : Nat} {o : Obj} (hm : MapO o []) : WF (E1 ++ { r with kids := some (mb, o, []) } :: E2) :=
  wf_mid (r := r) hW rfl rfl (fun s => by unfold kidGet; rw [hk]; rfl) (fun q hq => by cases hq; exact hm) (hW.files r (mem_mid.2 (.inl rfl)))
theorem wf_file {E1 E2 : List NodeR} {r : NodeR} (hW : WF (E1 ++ r :: E2)) {fb : Nat} {x : FS} {H : Heap} (hx : FO x H) : WF (E1 ++ { r with file := some ⟨fb, x, H⟩ } :: E2) :=
  wf_mid (r := r) hW rfl rfl (fun s => rfl) (hW.maps r (mem_mid.2 (.inl rfl))) (fun q hq => by cases hq; exact hx)
theorem snoc_inj {p q : Path} {s t : List UInt8} (h : p ++ [s] = q ++ [t]) : p = q ∧ s = t := by
  have := List.append_inj' h rfl
  exact ⟨this.1, by simpa using this.2⟩
theorem wf_ins {E1 E2 : List NodeR} {r r' : NodeR} (hW : WF (E1 ++ r :: E2)) {nb : Nat} {L : List Ent} {s : List UInt8} (hp : r'.p = r.p) (hb : r'.nb = r.nb) (hkg : ∀ t, kidGet r t = getM L t) (hkk : ∀ t, kidGet r' t = getM (putM L s (ptrV nb)) t) (hs : getM L s = none) (hmm : ∀ q, r'.kids = some q → MapO q.2.1 q.2.2) (hff : ∀ q, r'.file = some q → FO q.x q.H) :
    WF (⟨r.p ++ [s], nb, none, none⟩ :: (E1 ++ r' :: E2)) := by
  have hrm : r ∈ E1 ++ r :: E2 := mem_mid.2 (.inl rfl)
  have hno : ∀ q ∈ E1 ++ r :: E2, q.p ≠ r.p ++ [s] := hW.kid0 r hrm s (by rw [hkg]; exact hs)
  have hno' : ∀ q ∈ E1 ++ r' :: E2, q.p ≠ r.p ++ [s] := mid_no (r := r) (r' := r') hp hno
  have lift : ∀ {p : Path} {v : Value}, (∃ q ∈ E1 ++ r :: E2, q.p = p ∧ v = ptrV q.nb) → ∃ q ∈ (⟨r.p ++ [s], nb, none, none⟩ :: (E1 ++ r' :: E2) : List NodeR), q.p = p ∧ v = ptrV q.nb := fun h => by
    obtain ⟨q, hq, h1⟩ := mid_ex (r := r) (r' := r') hp hb h
    exact ⟨q, List.mem_cons_of_mem _ hq, h1⟩
  have back : ∀ {p : Path}, (∃ q ∈ E1 ++ r' :: E2, q.p = p) → ∃ q ∈ E1 ++ r :: E2, q.p = p := fun h => mid_ps (r := r') (r' := r) hp.symm h
  refine ⟨fun q hq => ?_, fun q hq => ?_, ?_, fun q hq t v hv => ?_, fun q hq t hv q2 hq2 e => ?_, fun q hq p t e => ?_, ?_⟩
  · rcases List.mem_cons.1 hq with rfl | hq
    · intro k hk'; cases hk'
    · rcases mem_mid.1 hq with rfl | hq
      · exact hmm
      · exact hW.maps q (mem_mid.2 (.inr hq))
  · rcases List.mem_cons.1 hq with rfl | hq
    · intro k hk'; cases hk'
    · rcases mem_mid.1 hq with rfl | hq
      · exact hff
      · exact hW.files q (mem_mid.2 (.inr hq))
  · obtain ⟨q, hq, e⟩ := mid_ps (r := r) (r' := r') hp hW.root
    exact ⟨q, List.mem_cons_of_mem _ hq, e⟩
  · rcases List.mem_cons.1 hq with rfl | hq
    · cases hv
    · rcases mem_mid.1 hq with h | hq
      · subst h
        rw [hkk, getM_put] at hv
        by_cases e : s = t
        · subst e
          rw [if_pos rfl] at hv
          cases hv
          exact ⟨_, List.mem_cons_self, by rw [hp], rfl⟩
        · rw [if_neg e] at hv
          rw [hp]
          exact lift (hW.kid1 r hrm t v (by rw [hkg]; exact hv))
      · exact lift (hW.kid1 q (mem_mid.2 (.inr hq)) t v hv)
  · rcases List.mem_cons.1 hq2 with rfl | hq2
    · rcases List.mem_cons.1 hq with rfl | hq
      · have := congrArg List.length e; simp at this
      · obtain ⟨e1, e2⟩ := snoc_inj e
        rcases mem_mid.1 hq with h | hq
        · subst h
          rw [hkk, getM_put, if_pos e2] at hv; cases hv
        · have h0 := nodup_inj hW.nodup (mem_mid.2 (.inr hq)) hrm e1.symm
          rw [h0] at hq
          have hnd := hW.nodup
          rw [List.map_append, List.map_cons] at hnd
          have h3 := List.nodup_append.1 hnd
          rcases List.mem_append.1 hq with h | h
          · exact h3.2.2 r.p (List.mem_map.2 ⟨r, h, rfl⟩) r.p List.mem_cons_self rfl
          · exact (List.nodup_cons.1 h3.2.1).1 (List.mem_map.2 ⟨r, h, rfl⟩)
    · obtain ⟨q3, hq3, e3⟩ := back ⟨q2, hq2, e⟩
      rcases List.mem_cons.1 hq with rfl | hq
      · obtain ⟨q4, hq4, e4⟩ := hW.up q3 hq3 (r.p ++ [s]) t e3
        exact hno q4 hq4 e4
      · rcases mem_mid.1 hq with h | hq
        · subst h
          rw [hkk, getM_put] at hv
          by_cases e2 : s = t
          · rw [if_pos e2] at hv; cases hv
          · rw [if_neg e2] at hv
            exact hW.kid0 r hrm t (by rw [hkg]; exact hv) q3 hq3 (by rw [e3, hp])
        · exact hW.kid0 q (mem_mid.2 (.inr hq)) t hv q3 hq3 e3
  · rcases List.mem_cons.1 hq with rfl | hq
    · obtain ⟨e1, e2⟩ := snoc_inj e
      exact ⟨r', List.mem_cons_of_mem _ (mem_mid.2 (.inl rfl)), by rw [hp]; exact e1⟩
    · obtain ⟨q3, hq3, e3⟩ := back ⟨q, hq, e⟩
      obtain ⟨q4, hq4, e4⟩ := mid_ps (r := r) (r' := r') hp (hW.up q3 hq3 p t e3)
      exact ⟨q4, List.mem_cons_of_mem _ hq4, e4⟩
  · rw [List.map_cons, List.nodup_cons]
    refine ⟨fun hm => ?_, by rw [mid_p (r := r) (r' := r') hp]; exact hW.nodup⟩
    obtain ⟨q, hq, e⟩ := List.mem_map.1 hm
    exact hno' q hq e
/-- The paths that are there; the files that are there. -/
def PS (D : List NodeR) (p : Path) : Prop := ∃ r ∈ D, r.p = p
def FH (D : List NodeR) (p : Path) (g : FileV) : Prop := ∃ r ∈ D, r.p = p ∧ ∃ q, r.file = some q ∧ q.x.f = g

set_option maxHeartbeats 1000000 in
theorem find_spec (w0 : World) (D : List NodeR) (hW : WF D) (hD : Holds w0 (treeH D)) (p : List (List UInt8)) (Ap : Option Addr) (cp : Nat) (hrp : Rd w0 (.slice Ap p.length cp) p.length (p.map strV)) (hn : p.length ≤ 100000) : PureAt Tryz.prog 41 [findV D [], .slice Ap p.length cp] (findV D p) w0 := by
  refine PureAt.intro go41 Tryz.func41 rfl rfl fun hp => ?_
  refine (fun (hk : ∀ w, Hp w0 [] [] w → K _ _ _ _ _ w) => hk w0 hp) fun w hp => ?_
  refine K_seq ?_
  refine K_region ?_
  refine W_assign rfl rfl ?_
  refine W_nil ?_
  refine N_then_k ?_
  refine K_seq ?_
  refine K_seq ?_
  refine K_region ?_
  refine W_move rfl rfl ?_
  refine W_len_sl Tryz.underlying35 rfl rfl ?_
  refine W_move rfl rfl ?_
  refine W_nil ?_
  refine N_then_k ?_
  refine K_block ?_
  refine K_loop (σ := Nat) [0, 6, 9, 10, 11, 12, 13, 14, 15, 16, 17, 18, 19, 20, 21]
      (fun k => [(9, .int .i64 k), (0, findV D (p.take k))])
      (fun k w => Hp w0 [] [] w ∧ k ≤ p.length)
      (fun k => p.length - k) (0) ?_ ?_ ?_
  · repeat' (first | exact sub_lst_nil (sub_nil _) | refine sub_lst rfl ?_ | (refine sub_lst_eq rfl ?_ ?_; · first | rfl | (simp; done) | (congr 1; omega)))
  · exact ⟨hp, Nat.zero_le _⟩
  · intro k w hJ
    clear hp
    obtain ⟨hp, hle⟩ := hJ
    rcases Nat.lt_or_ge k p.length with hlt | hge
    all_goals (
 refine K_seq ?_
 refine K_region ?_
 first
   | (refine W_lss_t rfl rfl ?_ rfl ?_; (focus (omega)))
   | (refine W_lss_f rfl rfl ?_ rfl ?_; (focus (omega)))
   | (refine W_lss rfl rfl rfl ?_)
 refine W_nil ?_
 refine N_then_k ?_
 refine K_seq ?_
 first
   | refine K_cond_d rfl (fun hc1 => ?_) (fun hc1 => ?_)
   | refine K_cond_n rfl (fun hc1 => ?_) (fun hc1 => ?_)
   | refine K_cond_nb rfl (fun hc1 => ?_) (fun hc1 => ?_)
   | refine K_cond_t rfl (fun hc1 => ?_) (fun hc1 => ?_)
 · try (exfalso; first | omega | (simp only [Bool.false_eq_true, reduceCtorEq] at hc1; done) | (refine absurd hc1 ?_; with_reducible assumption) | (refine absurd ?_ hc1; with_reducible assumption))
   all_goals (
 refine K_skip ?_
 refine N_then_k ?_
 refine K_seq ?_
 refine K_block ?_
 refine K_seq ?_
 refine K_region ?_
 obtain ⟨x, hx⟩ : ∃ x, p[k]? = some x := ⟨_, List.getElem?_eq_getElem hlt⟩
 have hxs := strV_at hx
 obtain ⟨bbx, oox, rfl⟩ := hrp.some (by intro e; rw [e] at hxs; simp at hxs)
 have hxc := hrp.cell hxs
 have hxt : p.take (k + 1) = p.take k ++ [x] := by rw [List.take_add_one, hx]; rfl
 refine W_indexAddr_sl Tryz.underlying35 sz9 rfl rfl ?_ ?_ rfl ?_
 (focus (omega))
 (focus (first | omega | (simp; done) | (simp; omega)))
 refine W_load_s Tryz.underlying9 rfl rfl (by exact hp.cell_old0 (by simpa using hxc)) rfl ?_
 refine W_assign rfl rfl ?_
 refine W_nil ?_
 refine N_then_k ?_
 refine K_seq ?_
 rcases find_two D (p.take k) with ⟨r, hr, hrp2⟩ | hno
 all_goals first | (have hv := findV_of hW hr hrp2) | (have hv := findV_none hno)
 all_goals rw [hv]
 all_goals (
  refine K_region ?_
  refine W_move rfl rfl ?_
  first
    | (refine W_val rfl (inb_of rfl) (R_bin (a := .pointer none) (v := .bool false) rfl rfl (by kernel_rfl)) ?_)
    | (refine W_val rfl (inb_of rfl) (R_bin (v := .bool true) rfl rfl (by kernel_rfl)) ?_)
  refine W_nil ?_
  refine N_then_k ?_
  first
    | refine K_cond_d rfl (fun hc2 => ?_) (fun hc2 => ?_)
    | refine K_cond_n rfl (fun hc2 => ?_) (fun hc2 => ?_)
    | refine K_cond_nb rfl (fun hc2 => ?_) (fun hc2 => ?_)
    | refine K_cond_t rfl (fun hc2 => ?_) (fun hc2 => ?_)
  · try (exfalso; first | omega | (simp only [Bool.false_eq_true, reduceCtorEq] at hc2; done) | (refine absurd hc2 ?_; with_reducible assumption) | (refine absurd ?_ hc2; with_reducible assumption))
    all_goals (
 refine K_region ?_
 refine W_move rfl rfl ?_
 refine W_nilCheck_p rfl rfl ?_
 refine W_fieldAddr Tryz.underlying57 rfl sz54 rfl rfl ?_
 refine W_load_s Tryz.underlying54 rfl rfl (by exact node_kid (hD.keep hp) hr) rfl ?_
 refine W_move rfl rfl ?_
 refine W_val rfl (inb_of rfl) (R_kids hW (hD.keep hp) hr Tryz.underlying54 Tryz.underlying9 zv53 rfl rfl) ?_
 refine W_assign rfl rfl ?_
 refine W_nil ?_
 refine N_block_normal ?_
 refine N_then_k ?_
 refine K_region ?_
 first
   | (refine W_add rfl rfl (wr_i64 ?_) rfl ?_; (focus (omega)))
   | (refine W_add rfl rfl rfl rfl ?_)
 refine W_move rfl rfl ?_
 refine W_nil ?_
 refine N_again (k + 1) (sub_end ?_ ?_) ⟨hp, hlt⟩ ?_
 · repeat' (first | exact sub_lst_nil (sub_nil _) | refine sub_lst rfl ?_ | (refine sub_lst_eq rfl ?_ ?_; · first | rfl | exact congrArg (findV D) (by rw [hxt, hrp2]) | exact (by rw [hxt]; exact (findV_below hW hno x).symm)))
 · repeat' (first | exact sub_refl _ | exact sub_strip _ _ | refine sub_s_cons rfl ?_ | refine sub_s_lst rfl ?_ | refine sub_s_strip rfl ?_)
 · omega)
  · try (exfalso; first | omega | (simp only [Bool.false_eq_true, reduceCtorEq] at hc2; done) | (refine absurd hc2 ?_; with_reducible assumption) | (refine absurd ?_ hc2; with_reducible assumption))
    all_goals (
 refine K_skip ?_
 refine N_block_normal ?_
 refine N_then_k ?_
 refine K_region ?_
 first
   | (refine W_add rfl rfl (wr_i64 ?_) rfl ?_; (focus (omega)))
   | (refine W_add rfl rfl rfl rfl ?_)
 refine W_move rfl rfl ?_
 refine W_nil ?_
 refine N_again (k + 1) (sub_end ?_ ?_) ⟨hp, hlt⟩ ?_
 · repeat' (first | exact sub_lst_nil (sub_nil _) | refine sub_lst rfl ?_ | (refine sub_lst_eq rfl ?_ ?_; · first | rfl | exact congrArg (findV D) (by rw [hxt, hrp2]) | exact (by rw [hxt]; exact (findV_below hW hno x).symm)))
 · repeat' (first | exact sub_refl _ | exact sub_strip _ _ | refine sub_s_cons rfl ?_ | refine sub_s_lst rfl ?_ | refine sub_s_strip rfl ?_)
 · omega)))
 · try (exfalso; first | omega | (simp only [Bool.false_eq_true, reduceCtorEq] at hc1; done) | (refine absurd hc1 ?_; with_reducible assumption) | (refine absurd ?_ hc1; with_reducible assumption))
   all_goals (
 refine K_exit ?_
 refine N_then_exit ?_
 refine N_then_exit ?_
 refine N_block_exit ?_
 refine N_then_k ?_
 refine K_seq ?_
 refine K_region ?_
 refine W_move rfl rfl ?_
 refine W_assign rfl rfl ?_
 refine W_nil ?_
 refine N_then_k ?_
 refine K_ret ?_
 refine N_done1 (.inr rfl) rfl rfl ?_
 refine ⟨_, rfl, ?_, hp.nil⟩
 rw [List.take_of_length_le hge]))

end Go.Proofs.YticinfoljhlnbaaGreatDoor
