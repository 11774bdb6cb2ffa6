/-
  lists.Elements, walked.
-/
import Derived.Test.YtjmfjdmpbkdceaaDoorSeq
namespace Go.Proofs.YtjmfjdmpbkdceaaDoor
open Go.Sx Go.RowKit
set_option linter.unusedVariables false
set_option linter.unusedSimpArgs false
set_option maxRecDepth 100000

/-! ### The elements of values -/
def elemsP (ps : List (List UInt8)) : List (List UInt8) := (ps.map trim).filter fun x => decide (x ≠ [])
def elemsV (v : List UInt8) : List (List UInt8) := elemsP (splitB 44 v)
def elemsL (L : List (List UInt8)) : List (List UInt8) := (L.map elemsV).flatten
theorem elemsP_app (a b : List (List UInt8)) : elemsP (a ++ b) = elemsP a ++ elemsP b := by simp [elemsP]
theorem elemsP_one (p : List UInt8) : elemsP [p] = if trim p = [] then [] else [trim p] := by
  unfold elemsP
  by_cases h : trim p = [] <;> simp [h]
theorem elemsP_take {ps : List (List UInt8)} {j : Nat} {p : List UInt8} (h : ps[j]? = some p) : elemsP (ps.take (j + 1)) = elemsP (ps.take j) ++ if trim p = [] then [] else [trim p] := by
  rw [List.take_add_one, h, Option.toList_some, elemsP_app, elemsP_one]
theorem elemsP_len (ps : List (List UInt8)) : (elemsP ps).length ≤ ps.length := by
  unfold elemsP
  exact Nat.le_trans (List.length_filter_le _ _) (by simp)
theorem elemsL_app (a b : List (List UInt8)) : elemsL (a ++ b) = elemsL a ++ elemsL b := by simp [elemsL]
theorem elemsL_one (v : List UInt8) : elemsL [v] = elemsV v := by simp [elemsL]
theorem elemsL_take {L : List (List UInt8)} {i : Nat} {v : List UInt8} (h : L[i]? = some v) : elemsL (L.take (i + 1)) = elemsL (L.take i) ++ elemsV v := by
  rw [List.take_add_one, h, Option.toList_some, elemsL_app, elemsL_one]
theorem list_at {α : Type} {l : List α} {i : Nat} {x : α} (h : l[i]? = some x) : l = l.take i ++ x :: l.drop (i + 1) := by
  obtain ⟨h1, h2⟩ := List.getElem?_eq_some_iff.1 h
  rw [← h2]; simp
theorem elems_at {L : List (List UInt8)} {i j : Nat} {v p : List UInt8} (h : L[i]? = some v) (hp : (splitB 44 v)[j]? = some p) (hne : trim p ≠ []) :
    (elemsL L)[(elemsL (L.take i)).length + (elemsP ((splitB 44 v).take j)).length]? = some (trim p) := by
  have e1 : elemsL L = elemsL (L.take i) ++ (elemsP ((splitB 44 v).take j) ++ (trim p :: (elemsP ((splitB 44 v).drop (j + 1)) ++ elemsL (L.drop (i + 1))))) := by
    conv => lhs; rw [list_at h]
    rw [show L.take i ++ v :: L.drop (i + 1) = L.take i ++ ([v] ++ L.drop (i + 1)) from rfl, elemsL_app, elemsL_app, elemsL_one]
    unfold elemsV
    conv => lhs; rw [list_at hp]
    rw [show (splitB 44 v).take j ++ p :: (splitB 44 v).drop (j + 1) = (splitB 44 v).take j ++ ([p] ++ (splitB 44 v).drop (j + 1)) from rfl, elemsP_app, elemsP_app, elemsP_one, if_neg hne]
    simp
  rw [e1, List.getElem?_append_right (by omega), Nat.add_sub_cancel_left, List.getElem?_append_right (Nat.le_refl _)]
  simp
theorem splitB_lens {c : UInt8} : ∀ {s : List UInt8}, ∀ p ∈ splitB c s, p.length ≤ s.length
  | [], p, h => by simp [splitB] at h; subst h; simp
  | x :: s, p, h => by
    rw [splitB_cons] at h
    have ih := splitB_lens (c := c) (s := s)
    by_cases hx : x = c
    · rw [if_pos hx] at h
      rcases List.mem_cons.1 h with rfl | h
      · simp
      · have := ih p h; simp; omega
    · rw [if_neg hx] at h
      cases hs : splitB c s with
      | nil => exact absurd hs (splitB_ne c s)
      | cons y r =>
        rw [hs] at h
        rcases List.mem_cons.1 h with rfl | h
        · have := ih y (by rw [hs]; exact List.mem_cons_self); simp; omega
        · have := ih p (by rw [hs]; exact List.mem_cons_of_mem _ h); simp; omega
theorem map_at {xs : List (List UInt8)} {j : Nat} {x : Value} (h : (xs.map strV)[j]? = some x) : ∃ y, xs[j]? = some y ∧ x = strV y := by
  rw [List.getElem?_map] at h
  cases e : xs[j]? with
  | none => rw [e] at h; simp at h
  | some y => rw [e] at h; simp at h; exact ⟨y, rfl, h.symm⟩
theorem elemsV_len (v : List UInt8) : (elemsV v).length ≤ v.length + 1 := by
  have h1 := elemsP_len (splitB 44 v)
  have h2 := splitB_length 44 v
  have h3 := count_le 44 v
  unfold elemsV; omega
theorem elemsL_len (L : List (List UInt8)) (h : ∀ v ∈ L, v.length ≤ 100000) : (elemsL L).length ≤ L.length * 100001 := by
  induction L with
  | nil => simp [elemsL]
  | cons v L ih =>
    have h1 := elemsV_len v
    have h2 := h v (by simp)
    have h3 := ih (fun x hx => h x (by simp [hx]))
    rw [show v :: L = [v] ++ L from rfl, elemsL_app, elemsL_one, List.length_append]
    simp only [List.length_append, List.length_singleton]; omega
theorem elemsL_lens {L : List (List UInt8)} {m : Nat} (h : ∀ v ∈ L, v.length ≤ m) : ∀ e ∈ elemsL L, e.length ≤ m := by
  intro e he
  unfold elemsL at he
  obtain ⟨l, hl, hel⟩ := List.mem_flatten.1 he
  obtain ⟨v, hv, rfl⟩ := List.mem_map.1 hl
  unfold elemsV elemsP at hel
  obtain ⟨hel, _⟩ := List.mem_filter.1 hel
  obtain ⟨p, hp, rfl⟩ := List.mem_map.1 hel
  have h1 := splitB_lens p hp
  have h2 := trim_length p
  have h3 := h v hv
  omega

set_option maxHeartbeats 1000000 in
theorem elements1_spec (w0 : World) (L : List (List UInt8)) (A : Option Addr) (cL : Nat) (hrl : Rd w0 (.slice A L.length cL) L.length (L.map strV)) (hn : L.length ≤ 1000) (hL : ∀ v ∈ L, v.length ≤ 100000) (b1 : Nat) : SeqC Tryd.prog (.func (.func 29) #[] #[.pointer (some ⟨b1, 0, none⟩)]) ((elemsL L).map strV) ((b1, .cells [.slice A L.length cL].toArray 22) :: []) w0 := by
  intro kk Jc Jx X w hp h0 hY
  replace hp : Hp w0 [] ((b1, .cells [.slice A L.length cL].toArray 22) :: X) w := hp
  refine CallV.closure (cap := [_]) go29 (calls_of_KM Tryd.func29 rfl rfl ?_)
  refine K_seq ?_
  refine K_region ?_
  refine W_box hp rfl rfl rfl ?_
  clear hp; intro b2 w hp
  refine W_nil ?_
  refine N_then_k ?_
  refine K_seq ?_
  refine K_region ?_
  refine W_load_s Tryd.underlying22 rfl rfl (by first | exact hp.cellF (by first | exact List.mem_cons_self | exact .tail _ (.head _) | exact .tail _ (.tail _ (.head _)) | exact .tail _ (.tail _ (.tail _ (.head _))) | exact .tail _ (.tail _ (.tail _ (.tail _ (.head _)))) | exact .tail _ (.tail _ (.tail _ (.tail _ (.tail _ (.head _))))) | exact List.mem_append_right _ (.head _) | exact List.mem_append_right _ (.tail _ (.head _)) | exact List.mem_append_right _ (.tail _ (.tail _ (.head _))) | exact .tail _ (List.mem_append_right _ (.head _)) | exact .tail _ (List.mem_append_right _ (.tail _ (.head _))) | assumption | (repeat (first | exact List.mem_cons_self | apply List.mem_append_right | apply List.mem_cons_of_mem))) rfl | exact hp.cellM (by first | exact List.mem_cons_self | exact .tail _ (.head _) | exact .tail _ (.tail _ (.head _)) | exact .tail _ (.tail _ (.tail _ (.head _))) | exact .tail _ (.tail _ (.tail _ (.tail _ (.head _)))) | exact .tail _ (.tail _ (.tail _ (.tail _ (.tail _ (.head _))))) | exact List.mem_append_right _ (.head _) | exact List.mem_append_right _ (.tail _ (.head _)) | exact List.mem_append_right _ (.tail _ (.tail _ (.head _))) | exact .tail _ (List.mem_append_right _ (.head _)) | exact .tail _ (List.mem_append_right _ (.tail _ (.head _))) | assumption | (repeat (first | exact List.mem_cons_self | apply List.mem_append_right | apply List.mem_cons_of_mem))) rfl | exact hp.cell_old0 ‹_› | (refine hp.cell_old0 ?_; assumption) | (apply hp.cellF (by assumption); rfl)) rfl ?_
  refine W_len_sl Tryd.underlying22 rfl rfl ?_
  refine W_move rfl rfl ?_
  refine W_nil ?_
  refine N_then_k ?_
  refine K_block ?_
  refine K_loopM (σ := Nat × Heap × List Nat) [4, 8, 9, 10, 11, 12, 13, 25]
      (fun q => [(8, .int .i64 q.1)])
      (fun q => q.2.2.map markD)
      (fun q w => Hp w0 [] (q.2.2.map defD ++ ((b2, .cells [.func (.yield kk) #[] #[]].toArray 35) :: (b1, .cells [.slice A L.length cL].toArray 22) :: q.2.1)) w ∧ Jc (elemsL (L.take q.1)).length q.2.1 ∧ q.1 ≤ L.length)
      (fun q => L.length - q.1) ((0, X, [])) ?_ rfl ?_ ?_
  · repeat' (first | exact sub_lst_nil (sub_nil _) | refine sub_lst rfl ?_ | (refine sub_lst_eq rfl ?_ ?_; · first | rfl | (simp; done) | (congr 1; omega)))
  · exact ⟨hp, h0, Nat.zero_le _⟩
  · intro ⟨i, X, Ds⟩ w hJ
    clear hp h0
    obtain ⟨hp, hJ, hle⟩ := hJ
    simp only at hp hJ hle
    change K _ _ _ _ (.lst ([(8, .int .i64 i)]) _) _
    rcases Nat.lt_or_ge i L.length with hlt | hge
    all_goals (
     refine K_seq ?_
     refine K_region ?_
     first
       | (refine W_lss_t rfl rfl ?_ rfl ?_; (focus (omega)))
       | (refine W_lss_f rfl rfl ?_ rfl ?_; (focus (omega)))
       | (refine W_lss rfl rfl rfl ?_)
     refine W_nil ?_
     refine N_then_k ?_
     refine K_seq ?_
     first
       | refine K_cond_d rfl (fun hc1 => ?_) (fun hc1 => ?_)
       | refine K_cond_n rfl (fun hc1 => ?_) (fun hc1 => ?_)
       | refine K_cond_nb rfl (fun hc1 => ?_) (fun hc1 => ?_)
       | refine K_cond_t rfl (fun hc1 => ?_) (fun hc1 => ?_)
     · try (exfalso; first | omega | (simp only [Bool.false_eq_true, reduceCtorEq] at hc1; done) | (refine absurd hc1 ?_; with_reducible assumption) | (refine absurd ?_ hc1; with_reducible assumption))
       all_goals (
        refine K_skip ?_
        refine N_then_k ?_
        refine K_seq ?_
        refine K_block ?_
        refine K_seq ?_
        refine K_region ?_
        obtain ⟨v, hv⟩ : ∃ v, L[i]? = some v := ⟨_, List.getElem?_eq_getElem hlt⟩
        have hvs := strV_at hv
        obtain ⟨bb, oo, rfl⟩ := hrl.some (by intro e; rw [e] at hvs; simp at hvs)
        have hcx := hrl.cell hvs
        have hvl := hL v (List.mem_of_getElem? hv)
        refine W_indexAddr_sl Tryd.underlying22 sz9 rfl rfl ?_ ?_ rfl ?_
        (focus (omega))
        (focus (first | omega | (simp; done) | (simp; omega)))
        refine W_load_s Tryd.underlying9 rfl rfl (by exact hp.cell_old0 (by simpa using hcx)) rfl ?_
        refine W_assign rfl rfl ?_
        refine W_nil ?_
        refine N_then_k ?_
        refine K_seq ?_
        refine K_region ?_
        refine W_move rfl rfl ?_
        refine W_bcall hp rfl ((splitsq_spec w v 44 (by omega))) rfl ?_
        clear hp; intro v13 G13 w r13 hp
        refine W_nil ?_
        refine N_then_k ?_
        refine K_block ?_
        refine K_range1 (xs := (splitB 44 v).map strV)
            (fun j Y => ∃ X', Y = Ds.map defD ++ ((b2, .cells [.func (.yield kk) #[] #[]].toArray 35) :: (b1, .cells [.slice (some ⟨bb, oo, none⟩) L.length cL].toArray 22) :: X') ∧ Jc ((elemsL (L.take i)).length + (elemsP ((splitB 44 v).take j)).length) X')
            (fun c _ Y => c = .ret ∧ ∃ X' q, Y = Ds.map defD ++ ((b2, .cells [.func (.yield kk) #[] #[]].toArray 35) :: (b1, .cells [.slice (some ⟨bb, oo, none⟩) L.length cL].toArray 22) :: X') ∧ q ≤ (elemsL L).length ∧ Jx q X')
            hp (List.Perm.refl _) rfl (r13 w0) (⟨X, rfl, by simpa [elemsP] using hJ⟩) rfl rfl ?_ ?_ ?_
        · clear hp; intro r j x O Y w hx hI hp
          obtain ⟨X2, rfl, hJ2⟩ := hI
          obtain ⟨pt, hpt, rfl⟩ := map_at hx
          have hpl := splitB_lens pt (List.mem_of_getElem? hpt)
          refine KI_block ?_
          refine KI_seq ?_
          refine KI_regionP rfl ?_
          refine W_move rfl rfl ?_
          refine W_pcall hp rfl (trim_spec pt (by omega)) rfl ?_
          clear hp; intro w hp
          refine W_assign rfl rfl ?_
          refine W_nil ?_
          refine NI_end ?_
          refine NI_then_k ?_
          refine KI_seq ?_
          by_cases hne : trim pt = []
          · refine KI_regionP rfl ?_
            refine W_move rfl rfl ?_
            first
              | (refine W_sneq_f rfl rfl ?_ rfl ?_; (focus (first | rfl | assumption)))
              | (refine W_sneq_t rfl rfl ?_ rfl ?_; (focus (first | assumption | decide | exact List.cons_ne_nil _ _)))
              | (refine W_sneq rfl rfl rfl ?_)
            refine W_move rfl rfl ?_
            first
              | refine W_guard_lit_t rfl ?_
              | refine W_guard_lit_f rfl ?_
              | refine W_guard_lit_u rfl ?_
              | refine W_guard_split_d rfl rfl rfl (fun hg2 => ?_) (fun hg2 => ?_)
              | refine W_guard_split_n rfl rfl rfl (fun hg2 => ?_) (fun hg2 => ?_)
              | refine W_guard_split_nb rfl rfl rfl (fun hg2 => ?_) (fun hg2 => ?_)
              | refine W_guard_split rfl rfl rfl (fun hg2 => ?_) (fun hg2 => ?_)
            all_goals try (exfalso; first | omega | (simp only [Bool.false_eq_true, reduceCtorEq] at hg2; done) | (refine absurd hg2 ?_; with_reducible assumption) | (refine absurd ?_ hg2; with_reducible assumption))
            all_goals (
             first
               | (iterate 4 refine W_guard_no rfl rfl rfl ?_)
               | (iterate 4 refine W_guard_un rfl rfl ?_)
               | (refine W_guard_yes rfl ?_
                  refine W_load_s Tryd.underlying35 rfl rfl (by first | exact hp.cellF (by first | exact List.mem_cons_self | exact .tail _ (.head _) | exact .tail _ (.tail _ (.head _)) | exact .tail _ (.tail _ (.tail _ (.head _))) | exact .tail _ (.tail _ (.tail _ (.tail _ (.head _)))) | exact .tail _ (.tail _ (.tail _ (.tail _ (.tail _ (.head _))))) | exact List.mem_append_right _ (.head _) | exact List.mem_append_right _ (.tail _ (.head _)) | exact List.mem_append_right _ (.tail _ (.tail _ (.head _))) | exact .tail _ (List.mem_append_right _ (.head _)) | exact .tail _ (List.mem_append_right _ (.tail _ (.head _))) | assumption | (repeat (first | exact List.mem_cons_self | apply List.mem_append_right | apply List.mem_cons_of_mem))) rfl | exact hp.cellM (by first | exact List.mem_cons_self | exact .tail _ (.head _) | exact .tail _ (.tail _ (.head _)) | exact .tail _ (.tail _ (.tail _ (.head _))) | exact .tail _ (.tail _ (.tail _ (.tail _ (.head _)))) | exact .tail _ (.tail _ (.tail _ (.tail _ (.tail _ (.head _))))) | exact List.mem_append_right _ (.head _) | exact List.mem_append_right _ (.tail _ (.head _)) | exact List.mem_append_right _ (.tail _ (.tail _ (.head _))) | exact .tail _ (List.mem_append_right _ (.head _)) | exact .tail _ (List.mem_append_right _ (.tail _ (.head _))) | assumption | (repeat (first | exact List.mem_cons_self | apply List.mem_append_right | apply List.mem_cons_of_mem))) rfl | exact hp.cell_old0 ‹_› | (refine hp.cell_old0 ?_; assumption) | (apply hp.cellF (by assumption); rfl)) rfl ?_
                  refine W_guard_yes rfl ?_
                  refine W_move rfl rfl ?_
                  refine W_guard_yes rfl ?_
                  fail "not to be reached"
                  refine W_guard_yes rfl ?_
                  first
                    | (refine W_not_t rfl rfl ?_)
                    | (refine W_not_f rfl rfl ?_)
                    | (refine W_not rfl rfl ?_))
             first
               | (refine W_pick_t rfl rfl rfl ?_)
               | (refine W_pick_f rfl rfl rfl ?_)
               | (refine W_pick_b rfl rfl rfl rfl ?_)
             refine W_nil ?_
             refine NI_end ?_
             refine NI_then_k ?_
             first
               | refine KI_cond_d rfl (fun hc3 => ?_) (fun hc3 => ?_)
               | refine KI_cond_n rfl (fun hc3 => ?_) (fun hc3 => ?_)
               | refine KI_cond_nb rfl (fun hc3 => ?_) (fun hc3 => ?_)
               | refine KI_cond_t rfl (fun hc3 => ?_) (fun hc3 => ?_)
             · try (exfalso; first | omega | (simp only [Bool.false_eq_true, reduceCtorEq] at hc3; done) | (refine absurd hc3 ?_; with_reducible assumption) | (refine absurd ?_ hc3; with_reducible assumption))
               all_goals (
                refine KI_ret ?_
                refine N_block_ret ?_
                exact fun _ _ => ⟨_, hp, rfl, X3, _, rfl, (by have := (List.getElem?_eq_some_iff.1 hix).1; omega), hJ3⟩)
             · try (exfalso; first | omega | (simp only [Bool.false_eq_true, reduceCtorEq] at hc3; done) | (refine absurd hc3 ?_; with_reducible assumption) | (refine absurd ?_ hc3; with_reducible assumption))
               all_goals (
                refine KI_skip ?_
                refine N_block_normal ?_
                first
                  | exact fun _ _ => ⟨_, hp, X2, rfl, by rw [elemsP_take hpt, if_pos hne, List.append_nil]; exact hJ2⟩
                  | exact fun _ _ => ⟨_, hp, X3, rfl, by rw [elemsP_take hpt, if_neg hne, List.length_append]; simpa [Nat.add_assoc] using hJ3⟩))
          · refine KI_region ?_
            refine WI_pre (A := [_, _, _, _, _]) (B := [_, _, _]) rfl rfl ?_
            refine W_move rfl rfl ?_
            first
              | (refine W_sneq_f rfl rfl ?_ rfl ?_; (focus (first | rfl | assumption)))
              | (refine W_sneq_t rfl rfl ?_ rfl ?_; (focus (first | assumption | decide | exact List.cons_ne_nil _ _)))
              | (refine W_sneq rfl rfl rfl ?_)
            refine W_move rfl rfl ?_
            first
              | refine W_guard_lit_t rfl ?_
              | refine W_guard_lit_f rfl ?_
              | refine W_guard_lit_u rfl ?_
              | refine W_guard_split_d rfl rfl rfl (fun hg4 => ?_) (fun hg4 => ?_)
              | refine W_guard_split_n rfl rfl rfl (fun hg4 => ?_) (fun hg4 => ?_)
              | refine W_guard_split_nb rfl rfl rfl (fun hg4 => ?_) (fun hg4 => ?_)
              | refine W_guard_split rfl rfl rfl (fun hg4 => ?_) (fun hg4 => ?_)
            all_goals try (exfalso; first | omega | (simp only [Bool.false_eq_true, reduceCtorEq] at hg4; done) | (refine absurd hg4 ?_; with_reducible assumption) | (refine absurd ?_ hg4; with_reducible assumption))
            all_goals (
             first
               | (iterate 2 refine W_guard_no rfl rfl rfl ?_)
               | (iterate 2 refine W_guard_un rfl rfl ?_)
               | (refine W_guard_yes rfl ?_
                  refine W_load_s Tryd.underlying35 rfl rfl (by first | exact hp.cellF (by first | exact List.mem_cons_self | exact .tail _ (.head _) | exact .tail _ (.tail _ (.head _)) | exact .tail _ (.tail _ (.tail _ (.head _))) | exact .tail _ (.tail _ (.tail _ (.tail _ (.head _)))) | exact .tail _ (.tail _ (.tail _ (.tail _ (.tail _ (.head _))))) | exact List.mem_append_right _ (.head _) | exact List.mem_append_right _ (.tail _ (.head _)) | exact List.mem_append_right _ (.tail _ (.tail _ (.head _))) | exact .tail _ (List.mem_append_right _ (.head _)) | exact .tail _ (List.mem_append_right _ (.tail _ (.head _))) | assumption | (repeat (first | exact List.mem_cons_self | apply List.mem_append_right | apply List.mem_cons_of_mem))) rfl | exact hp.cellM (by first | exact List.mem_cons_self | exact .tail _ (.head _) | exact .tail _ (.tail _ (.head _)) | exact .tail _ (.tail _ (.tail _ (.head _))) | exact .tail _ (.tail _ (.tail _ (.tail _ (.head _)))) | exact .tail _ (.tail _ (.tail _ (.tail _ (.tail _ (.head _))))) | exact List.mem_append_right _ (.head _) | exact List.mem_append_right _ (.tail _ (.head _)) | exact List.mem_append_right _ (.tail _ (.tail _ (.head _))) | exact .tail _ (List.mem_append_right _ (.head _)) | exact .tail _ (List.mem_append_right _ (.tail _ (.head _))) | assumption | (repeat (first | exact List.mem_cons_self | apply List.mem_append_right | apply List.mem_cons_of_mem))) rfl | exact hp.cell_old0 ‹_› | (refine hp.cell_old0 ?_; assumption) | (apply hp.cellF (by assumption); rfl)) rfl ?_
                  refine W_guard_yes rfl ?_
                  refine W_move rfl rfl ?_)
             refine W_nil ?_
             refine NI_next ?_
             refine WI_guard_yes rfl ?_
             have hix := elems_at hv hpt hne
             refine WI_yield rfl (vs := [strV (trim pt)]) rfl rfl (hY _ (strV (trim pt)) (O ++ (Ds.map defD ++ [(b2, .cells [.func (.yield kk) #[] #[]].toArray 35), (b1, .cells [.slice (some ⟨bb, oo, none⟩) L.length cL].toArray 22)])) X2 w (strV_at hix) hJ2 (by simpa using hp)) ?_
             intro u w hu; clear hp hJ2
             obtain ⟨X3, hp, hu⟩ := hu
             replace hp : Hp w0 [] (O ++ (Ds.map defD ++ (b2, .cells [.func (.yield kk) #[] #[]].toArray 35) :: (b1, .cells [.slice (some ⟨bb, oo, none⟩) L.length cL].toArray 22) :: X3)) w := by simpa using hp
             rcases hu with ⟨rfl, hJ3⟩ | ⟨rfl, hJ3⟩
             all_goals (
              refine WI_pre (A := [_, _]) (B := []) rfl rfl ?_
              first
                | (refine W_guard_no rfl rfl rfl ?_)
                | (refine W_guard_un rfl rfl ?_)
                | (refine W_guard_yes rfl ?_
                   first
                     | (refine W_not_t rfl rfl ?_)
                     | (refine W_not_f rfl rfl ?_)
                     | (refine W_not rfl rfl ?_))
              first
                | (refine W_pick_t rfl rfl rfl ?_)
                | (refine W_pick_f rfl rfl rfl ?_)
                | (refine W_pick_b rfl rfl rfl rfl ?_)
              refine W_nil ?_
              refine NI_next ?_
              refine WI_nil ?_
              refine NI_then_k ?_
              first
                | refine KI_cond_d rfl (fun hc5 => ?_) (fun hc5 => ?_)
                | refine KI_cond_n rfl (fun hc5 => ?_) (fun hc5 => ?_)
                | refine KI_cond_nb rfl (fun hc5 => ?_) (fun hc5 => ?_)
                | refine KI_cond_t rfl (fun hc5 => ?_) (fun hc5 => ?_)
              · try (exfalso; first | omega | (simp only [Bool.false_eq_true, reduceCtorEq] at hc5; done) | (refine absurd hc5 ?_; with_reducible assumption) | (refine absurd ?_ hc5; with_reducible assumption))
                all_goals (
                 refine KI_ret ?_
                 refine N_block_ret ?_
                 exact fun _ _ => ⟨_, hp, rfl, X3, _, rfl, (by have := (List.getElem?_eq_some_iff.1 hix).1; omega), hJ3⟩)
              · try (exfalso; first | omega | (simp only [Bool.false_eq_true, reduceCtorEq] at hc5; done) | (refine absurd hc5 ?_; with_reducible assumption) | (refine absurd ?_ hc5; with_reducible assumption))
                all_goals (
                 refine KI_skip ?_
                 refine N_block_normal ?_
                 first
                   | exact fun _ _ => ⟨_, hp, X2, rfl, by rw [elemsP_take hpt, if_pos hne, List.append_nil]; exact hJ2⟩
                   | exact fun _ _ => ⟨_, hp, X3, rfl, by rw [elemsP_take hpt, if_neg hne, List.length_append]; simpa [Nat.add_assoc] using hJ3⟩)))
        · clear hp; intro D Y w hI hp
          obtain ⟨X3, rfl, hJ3⟩ := hI
          rw [List.length_map, List.take_length] at hJ3
          refine N_block_normal ?_
          refine N_block_normal ?_
          refine N_then_k ?_
          refine K_region ?_
          first
            | (refine W_add rfl rfl (wr_i64 ?_) rfl ?_; (focus (omega)))
            | (refine W_add rfl rfl rfl rfl ?_)
          refine W_move rfl rfl ?_
          refine W_nil ?_
          refine N_again (i + 1, X3, D :: Ds) (sub_endM ?_ ?_ rfl) ⟨hp, by rw [elemsL_take hv]; simpa [elemsV] using hJ3, hlt⟩ ?_
          · repeat' (first | exact sub_lst_nil (sub_nil _) | refine sub_lst rfl ?_ | (refine sub_lst_eq rfl ?_ ?_; · first | rfl | (simp; done) | (congr 1; omega)))
          · repeat' (first | exact st_refl _ | exact st_strip _ _ | refine st_marks ?_ | refine st_cons rfl ?_ | refine st_lst rfl ?_ | refine st_s_strip rfl ?_)
          · show _ < _; simp only; omega
        · clear hp; intro D c q Y w hq hI hp
          obtain ⟨rfl, X3, q2, rfl, hq2, hJ3⟩ := hI
          refine K_ret ?_
          refine N_block_ret ?_
          refine N_block_ret ?_
          refine N_then_ret ?_
          refine N_then_ret ?_
          refine N_block_ret ?_
          first
            | (refine N_doneM (D :: Ds) (.inr rfl) rfl hp rfl (fun w' _ => RVs_nil) rfl (fun w' hp' => ?_)
               exact ⟨_, rfl, X3, hp'.drop ((List.sublist_cons_self _ _).trans (List.sublist_cons_self _ _)), .inr ⟨q2, by rw [List.length_map]; exact hq2, hJ3⟩⟩)
            | (refine N_doneM Ds (.inl rfl) rfl hp rfl (fun w' _ => RVs_nil) rfl (fun w' hp' => ?_)
               rw [List.take_of_length_le hge] at hJ
               exact ⟨_, rfl, X, hp'.drop ((List.sublist_cons_self _ _).trans (List.sublist_cons_self _ _)), .inl (by rw [List.length_map]; exact hJ)⟩))
     · try (exfalso; first | omega | (simp only [Bool.false_eq_true, reduceCtorEq] at hc1; done) | (refine absurd hc1 ?_; with_reducible assumption) | (refine absurd ?_ hc1; with_reducible assumption))
       all_goals (
        refine K_exit ?_
        refine N_then_exit ?_
        refine N_then_exit ?_
        refine N_block_exit ?_
        first
          | (refine N_doneM (D :: Ds) (.inr rfl) rfl hp rfl (fun w' _ => RVs_nil) rfl (fun w' hp' => ?_)
             exact ⟨_, rfl, X3, hp'.drop ((List.sublist_cons_self _ _).trans (List.sublist_cons_self _ _)), .inr ⟨q2, by rw [List.length_map]; exact hq2, hJ3⟩⟩)
          | (refine N_doneM Ds (.inl rfl) rfl hp rfl (fun w' _ => RVs_nil) rfl (fun w' hp' => ?_)
             rw [List.take_of_length_le hge] at hJ
             exact ⟨_, rfl, X, hp'.drop ((List.sublist_cons_self _ _).trans (List.sublist_cons_self _ _)), .inl (by rw [List.length_map]; exact hJ)⟩)))

theorem elems_spec (w0 : World) (L : List (List UInt8)) (A : Option Addr) (cL : Nat) (hrl : Rd w0 (.slice A L.length cL) L.length (L.map strV)) (hn : L.length ≤ 1000) (hL : ∀ v ∈ L, v.length ≤ 100000) : RetB Tryd.prog 23 [.slice A L.length cL] (fun v G => ∀ w1, Rd w1 (.slice A L.length cL) L.length (L.map strV) → SeqC Tryd.prog v ((elemsL L).map strV) G w1) w0 := by
  refine RetB.intro go23 Tryd.func23 rfl rfl fun hp => ?_
  refine (fun (hk : ∀ w, Hp w0 [] [] w → K _ _ _ _ _ w) => hk w0 hp) fun w hp => ?_
  refine K_seq ?_
  refine K_region ?_
  refine W_box hp rfl rfl rfl ?_
  clear hp; intro b1 w hp
  refine W_assign rfl rfl ?_
  refine W_nil ?_
  refine N_then_k ?_
  refine K_seq ?_
  refine K_region ?_
  refine W_mkfunc_c1 rfl rfl ?_
  refine W_assign rfl rfl ?_
  refine W_nil ?_
  refine N_then_k ?_
  refine K_ret ?_
  refine N_done1 (.inr rfl) rfl rfl ?_
  exact ⟨_, rfl, _, hp, fun w1 h1 => elements1_spec w1 L A cL h1 hn hL _⟩

theorem elements_spec (w0 : World) (L : List (List UInt8)) (A : Option Addr) (cL : Nat) (hrl : Rd w0 (.slice A L.length cL) L.length (L.map strV)) (hn : L.length ≤ 1000) (hL : ∀ v ∈ L, v.length ≤ 100000) : RetB Tryd.prog 13 [.slice A L.length cL] (fun v G => OSs 9 v (elemsL L) G) w0 := by
  have hel := elemsL_len L hL
  refine RetB.intro go13 Tryd.func13 rfl rfl fun hp => ?_
  refine (fun (hk : ∀ w, Hp w0 [] [] w → K _ _ _ _ _ w) => hk w0 hp) fun w hp => ?_
  refine K_seq ?_
  refine K_region ?_
  refine W_assign rfl rfl ?_
  refine W_nil ?_
  refine N_then_k ?_
  refine K_seq ?_
  refine K_region ?_
  refine W_move rfl rfl ?_
  refine W_bcall hp rfl ((elems_spec w L A cL (hrl.keep hp) hn hL)) rfl ?_
  clear hp; intro v4 G4 w r4 hp
  refine W_xcall hp (List.Perm.refl _) rfl (collect_spec w0 v4 (elemsL L) G4 (r4 w0 hrl) (by omega)) rfl ?_
  clear hp; intro v5 G5 w r5 hp
  refine W_assign rfl rfl ?_
  refine W_nil ?_
  refine N_then_k ?_
  refine K_ret ?_
  refine N_done1 (.inr rfl) rfl rfl ?_
  exact ⟨_, rfl, G5, by simpa using hp, r5⟩

end Go.Proofs.YtjmfjdmpbkdceaaDoor
