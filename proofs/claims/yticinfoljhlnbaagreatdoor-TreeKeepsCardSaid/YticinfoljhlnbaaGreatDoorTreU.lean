/-
  The names below a path; wrong.
-/
import Derived.Test.YticinfoljhlnbaaGreatDoorTreS
import Derived.Test.YticinfoljhlnbaaGreatDoorTreT
namespace Go.Proofs.YticinfoljhlnbaaGreatDoor
open Go.Sx Go.RowKit
set_option linter.unusedVariables false
set_option linter.unusedSimpArgs false
set_option maxRecDepth 100000

/-! ### The names below a path, and the list -/
theorem nodup_len {α : Type} [DecidableEq α] : ∀ {K M : List α}, K.Nodup → (∀ x ∈ K, x ∈ M) → K.length ≤ M.length
  | [], _, _, _ => Nat.zero_le _
  | a :: K, M, h, hs => by
    rw [List.nodup_cons] at h
    have ha := hs a List.mem_cons_self
    have h1 := nodup_len (K := K) (M := M.erase a) h.2 (fun x hx => (List.mem_erase_of_ne (a := x) (b := a) (fun e => h.1 (by rw [← e]; exact hx))).2 (hs x (List.mem_cons_of_mem _ hx)))
    have h2 := List.length_erase_of_mem ha
    have h3 : 0 < M.length := List.length_pos_of_mem ha
    rw [List.length_cons]; omega
theorem mapO_nodup {o : Obj} {L : List Ent} (h : MapO o L) : (L.map (·.1)).Nodup := by
  obtain ⟨es, clock, rfl, he, hs⟩ := h
  have h1 := hs.2.2
  have h2 : es.toList.map (·.key) = L.map fun p => Value.string ⟨p.1.toArray⟩ := by
    have := congrArg (List.map Prod.fst) he
    rw [List.map_map, List.map_map] at this
    exact this
  rw [h2] at h1
  unfold List.Nodup at h1 ⊢
  rw [List.pairwise_map] at h1 ⊢
  exact h1.imp fun hne e => hne (by rw [e])
theorem tr_kid {t : TR} {l : List FileV} (ht : t.ok l) {r : NodeR} (hr : r ∈ t.D) {q : Nat × Obj × List Ent} (hk : r.kids = some q) (s : List UInt8) : s ∈ q.2.2.map (·.1) ↔ ∃ f ∈ l, r.p ++ [s] <+: f.path := by
  have hp : PS t.D (r.p ++ [s]) ↔ ∃ f ∈ l, r.p ++ [s] <+: f.path := by
    rw [ht.is.1]
    constructor
    · rintro (h | h)
      · simp at h
      · exact h
    · exact .inr
  rw [← hp]
  have hg : kidGet r s = getM q.2.2 s := by unfold kidGet; rw [hk]
  constructor
  · intro hm
    obtain ⟨e, he, rfl⟩ := List.mem_map.1 hm
    cases hc : kidGet r e.1 with
    | none => rw [hg] at hc; exact absurd rfl (getM_none hc e he)
    | some v =>
      obtain ⟨q2, h1, h2, _⟩ := ht.wf.kid1 r hr e.1 v hc
      exact ⟨q2, h1, h2⟩
  · rintro ⟨q2, h1, h2⟩
    cases hc : kidGet r s with
    | none => exact absurd h2 (ht.wf.kid0 r hr s hc q2 h1)
    | some v =>
      rw [hg] at hc
      clear hg hp
      generalize q.2.2 = L at hc
      induction L with
      | nil => cases hc
      | cons e L ih =>
        unfold getM at hc
        by_cases e1 : e.1 = s
        · rw [List.map_cons, e1]; exact List.mem_cons_self
        · rw [if_neg e1] at hc
          rw [List.map_cons]; exact List.mem_cons_of_mem _ (ih hc)
theorem prefix_at {p x : Path} {s : List UInt8} (h : p ++ [s] <+: x) : x[p.length]? = some s := by
  obtain ⟨y, rfl⟩ := h
  simp
theorem tr_lens {t : TR} {l : List FileV} (ht : t.ok l) (hf : fewT l = true) : ∀ r ∈ t.D, ∀ q, r.kids = some q → q.2.2.length ≤ 100000 ∧ ∀ e ∈ q.2.2, e.1.length ≤ maxLen := fun r hr q hk => by
  constructor
  · have h1 := nodup_len (K := q.2.2.map (·.1)) (M := l.map fun f => (f.path[r.p.length]?).getD []) (mapO_nodup (ht.wf.maps r hr q hk)) (fun s hs => by
      obtain ⟨f, hfm, hp⟩ := (tr_kid ht hr hk s).1 hs
      exact List.mem_map.2 ⟨f, hfm, by rw [prefix_at hp]; rfl⟩)
    rw [List.length_map, List.length_map] at h1
    have := (fewT_of hf).1
    omega
  · intro e he
    obtain ⟨f, hfm, hp⟩ := (tr_kid ht hr hk e.1).1 (List.mem_map.2 ⟨e, he, rfl⟩)
    have h2 := fewP_of (fewF_of ((fewT_of hf).2 f hfm)).1
    have h3 := h2.2 e.1 (List.mem_of_getElem? (prefix_at hp))
    exact Nat.le_trans h3 (by decide)

theorem wrong_spec (w0 : World) (hg : ErrT w0) (k : Int) : PureAt Tryz.prog 14 [fltV 400 k, .int .i64 400, .int .i64 k] (.bool true) w0 := by
  refine PureAt.intro go14 Tryz.func14 rfl rfl fun hp => ?_
  refine (fun (hk : ∀ w, Hp w0 [] [] w → K _ _ _ _ _ w) => hk w0 hp) fun w hp => ?_
  refine K_seq ?_
  refine K_region ?_
  refine W_assign rfl rfl ?_
  refine W_nil ?_
  refine N_then_k ?_
  refine K_seq ?_
  refine K_region ?_
  refine W_move rfl rfl ?_
  refine W_acall hp rfl ((fault_status w (hg.keep hp) 400 k)) rfl ?_
  clear hp; intro w hp
  refine W_move rfl rfl ?_
  refine W_extract rfl rfl rfl ?_
  refine W_extract rfl rfl rfl ?_
  refine W_assign rfl rfl ?_
  refine W_assign rfl rfl ?_
  refine W_nil ?_
  refine N_then_k ?_
  refine K_seq ?_
  refine K_region ?_
  refine W_move rfl rfl ?_
  refine W_acall hp rfl ((fault_at w (hg.keep hp) 400 k)) rfl ?_
  clear hp; intro w hp
  refine W_move rfl rfl ?_
  refine W_extract rfl rfl rfl ?_
  refine W_extract rfl rfl rfl ?_
  refine W_assign rfl rfl ?_
  refine W_assign rfl rfl ?_
  refine W_nil ?_
  refine N_then_k ?_
  refine K_seq ?_
  refine K_region ?_
  refine W_move rfl rfl ?_
  refine W_move rfl rfl ?_
  first
    | refine W_guard_lit_t rfl ?_
    | refine W_guard_lit_f rfl ?_
    | refine W_guard_lit_u rfl ?_
    | refine W_guard_split_d rfl rfl rfl (fun hg1 => ?_) (fun hg1 => ?_)
    | refine W_guard_split_n rfl rfl rfl (fun hg1 => ?_) (fun hg1 => ?_)
    | refine W_guard_split_nb rfl rfl rfl (fun hg1 => ?_) (fun hg1 => ?_)
    | refine W_guard_split rfl rfl rfl (fun hg1 => ?_) (fun hg1 => ?_)
  all_goals try (exfalso; first | omega | (simp only [Bool.false_eq_true, reduceCtorEq] at hg1; done) | (refine absurd hg1 ?_; with_reducible assumption) | (refine absurd ?_ hg1; with_reducible assumption))
  all_goals (
   first
     | (iterate 3 refine W_guard_no rfl rfl rfl ?_)
     | (iterate 3 refine W_guard_un rfl rfl ?_)
     | (refine W_guard_yes rfl ?_
        refine W_move rfl rfl ?_
        refine W_guard_yes rfl ?_
        refine W_move rfl rfl ?_
        refine W_guard_yes rfl ?_
        first
          | (refine W_eql_t rfl rfl ?_ rfl ?_; (focus (omega)))
          | (refine W_eql_f rfl rfl ?_ rfl ?_; (focus (omega)))
          | (refine W_eql rfl rfl rfl ?_))
   first
     | (refine W_pick_t rfl rfl rfl ?_)
     | (refine W_pick_f rfl rfl rfl ?_)
     | (refine W_pick_b rfl rfl rfl rfl ?_)
   refine W_move rfl rfl ?_
   first
     | refine W_guard_lit_t rfl ?_
     | refine W_guard_lit_f rfl ?_
     | refine W_guard_lit_u rfl ?_
     | refine W_guard_split_d rfl rfl rfl (fun hg2 => ?_) (fun hg2 => ?_)
     | refine W_guard_split_n rfl rfl rfl (fun hg2 => ?_) (fun hg2 => ?_)
     | refine W_guard_split_nb rfl rfl rfl (fun hg2 => ?_) (fun hg2 => ?_)
     | refine W_guard_split rfl rfl rfl (fun hg2 => ?_) (fun hg2 => ?_)
   all_goals try (exfalso; first | omega | (simp only [Bool.false_eq_true, reduceCtorEq] at hg2; done) | (refine absurd hg2 ?_; with_reducible assumption) | (refine absurd ?_ hg2; with_reducible assumption))
   all_goals (
    first
      | (refine W_guard_no rfl rfl rfl ?_)
      | (refine W_guard_un rfl rfl ?_)
      | (refine W_guard_yes rfl ?_
         refine W_move rfl rfl ?_)
    first
      | (refine W_pick_t rfl rfl rfl ?_)
      | (refine W_pick_f rfl rfl rfl ?_)
      | (refine W_pick_b rfl rfl rfl rfl ?_)
    refine W_move rfl rfl ?_
    first
      | refine W_guard_lit_t rfl ?_
      | refine W_guard_lit_f rfl ?_
      | refine W_guard_lit_u rfl ?_
      | refine W_guard_split_d rfl rfl rfl (fun hg3 => ?_) (fun hg3 => ?_)
      | refine W_guard_split_n rfl rfl rfl (fun hg3 => ?_) (fun hg3 => ?_)
      | refine W_guard_split_nb rfl rfl rfl (fun hg3 => ?_) (fun hg3 => ?_)
      | refine W_guard_split rfl rfl rfl (fun hg3 => ?_) (fun hg3 => ?_)
    all_goals try (exfalso; first | omega | (simp only [Bool.false_eq_true, reduceCtorEq] at hg3; done) | (refine absurd hg3 ?_; with_reducible assumption) | (refine absurd ?_ hg3; with_reducible assumption))
    all_goals (
     first
       | (iterate 3 refine W_guard_no rfl rfl rfl ?_)
       | (iterate 3 refine W_guard_un rfl rfl ?_)
       | (refine W_guard_yes rfl ?_
          refine W_move rfl rfl ?_
          refine W_guard_yes rfl ?_
          refine W_move rfl rfl ?_
          refine W_guard_yes rfl ?_
          first
            | (refine W_eql_t rfl rfl ?_ rfl ?_; (focus (omega)))
            | (refine W_eql_f rfl rfl ?_ rfl ?_; (focus (omega)))
            | (refine W_eql rfl rfl rfl ?_))
     first
       | (refine W_pick_t rfl rfl rfl ?_)
       | (refine W_pick_f rfl rfl rfl ?_)
       | (refine W_pick_b rfl rfl rfl rfl ?_)
     refine W_assign rfl rfl ?_
     refine W_nil ?_
     refine N_then_k ?_
     refine K_ret ?_
     refine N_done1 (.inr rfl) rfl rfl ?_
     exact ⟨_, rfl, rfl, hp.nil⟩)))

end Go.Proofs.YticinfoljhlnbaaGreatDoor
