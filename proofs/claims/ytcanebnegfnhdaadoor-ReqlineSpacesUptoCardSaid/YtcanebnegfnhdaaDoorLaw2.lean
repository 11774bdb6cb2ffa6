/-
  Laws of package reqline, walked: texts.
-/
import Derived.Test.YtcanebnegfnhdaaDoorLaw1
namespace Go.Proofs.YtcanebnegfnhdaaDoor
open Go.Sx Go.RowKit
set_option linter.unusedVariables false
set_option linter.unusedSimpArgs false
set_option maxRecDepth 100000

theorem count_no {a : List UInt8} (h : a.count 32 = 0) : 32 ∉ a := count_none h
theorem split_made {m t v : List UInt8} (hm : 32 ∉ m) (ht : 32 ∉ t) (hv : 32 ∉ v) : splitB 32 (m ++ [32] ++ t ++ [32] ++ v) = [m, t, v] := by
  have e1 : (m ++ [32] ++ t ++ [32] ++ v)[m.length]? = some 32 := by simp [List.append_assoc]
  have e2 : ∀ x ∈ (m ++ [32] ++ t ++ [32] ++ v).take m.length, x ≠ 32 := by
    intro x hx e; simp [List.append_assoc] at hx; subst e; exact hm hx
  rw [splitB_at e1 e2]
  have d1 : (m ++ [32] ++ t ++ [32] ++ v).take m.length = m := by simp [List.append_assoc]
  have d2 : (m ++ [32] ++ t ++ [32] ++ v).drop (m.length + 1) = t ++ [32] ++ v := by rw [show m.length + 1 = (m ++ [32]).length by simp, List.append_assoc, List.append_assoc, List.drop_left]; simp
  rw [d1, d2]
  have e3 : (t ++ [32] ++ v)[t.length]? = some 32 := by simp [List.append_assoc]
  have e4 : ∀ x ∈ (t ++ [32] ++ v).take t.length, x ≠ 32 := by
    intro x hx e; simp [List.append_assoc] at hx; subst e; exact ht hx
  rw [splitB_at e3 e4]
  have d3 : (t ++ [32] ++ v).take t.length = t := by simp [List.append_assoc]
  have d4 : (t ++ [32] ++ v).drop (t.length + 1) = v := by rw [show t.length + 1 = (t ++ [32]).length by simp, List.drop_left]
  rw [d3, d4, splitB_no hv]
theorem req_len {s m t : List UInt8} {k a : Int} (h : reqL (splitB 32 s) = (m, t, k, 0, a)) : s.count 32 = 2 := by
  by_cases h3 : (splitB 32 s).length = 3
  · rw [splitB_length] at h3; omega
  · rw [reqL_no h3] at h; simp at h
theorem reqText_of (m t : List UInt8) (k : Int) : reqText m t k = m ++ [32] ++ t ++ [32] ++ (if k = 0 then [72, 84, 84, 80, 47, 49, 46, 48] else [72, 84, 84, 80, 47, 49, 46, 49]) := by
  unfold reqText; split <;> simp
theorem text_parts {m t m' t' : List UInt8} {k k' a : Int} (h : reqL (splitB 32 (reqText m t k)) = (m', t', k', 0, a)) : 32 ∉ m ∧ 32 ∉ t ∧ isToken m = true ∧ tgtB t = true ∧ m' = m ∧ t' = t ∧ decide (k' = 0) = decide (k = 0) := by
  have hc := req_len h
  rw [reqText_of] at hc h
  have hv : (if k = 0 then [72, 84, 84, 80, 47, 49, 46, 48] else [72, 84, 84, 80, 47, 49, 46, 49] : List UInt8).count 32 = 0 := by split <;> rfl
  simp only [List.count_append, hv] at hc
  have h1 : ([32] : List UInt8).count 32 = 1 := rfl
  rw [h1] at hc
  have hm := count_no (a := m) (by omega)
  have ht := count_no (a := t) (by omega)
  rw [split_made hm ht (count_no hv)] at h
  cases c1 : isToken m
  · rw [reqL1 c1] at h; simp at h
  cases c2 : tgtB t
  · rw [reqL2 c1 c2] at h; simp at h
  refine ⟨hm, ht, rfl, rfl, ?_⟩
  by_cases hk : k = 0
  · subst hk
    rw [if_pos rfl, reqL5 c1 c2 (by decide +kernel) (by decide +kernel)] at h
    simp only [Prod.mk.injEq] at h
    exact ⟨h.1.symm, h.2.1.symm, by rw [← h.2.2.1]; rfl⟩
  · rw [if_neg hk, reqL5 c1 c2 (by decide +kernel) (by decide +kernel)] at h
    simp only [Prod.mk.injEq] at h
    exact ⟨h.1.symm, h.2.1.symm, by rw [← h.2.2.1, decide_eq_false hk]; rfl⟩
theorem space_more {s : List UInt8} (h : s.count 32 = 2) (i : Nat) : reqL (splitB 32 (s.take i ++ [32] ++ s.drop i)) = ([], [], 0, 400, 0) := by
  refine reqL_no ?_
  have e : (s.take i ++ [32] ++ s.drop i).count 32 = s.count 32 + 1 := by
    conv => rhs; rw [← List.take_append_drop i s]
    rw [List.count_append, List.count_append, List.count_append]
    have h1 : ([32] : List UInt8).count 32 = 1 := rfl
    rw [h1]; omega
  rw [splitB_length, e]; omega
theorem space_less {s m t : List UInt8} {k : Int} (h : reqText m t k = s) (hc : s.count 32 = 2) : reqL (splitB 32 (s.take (s.length - 9))) = ([], [], 0, 400, 0) := by
  refine reqL_no ?_
  have hv : (if k = 0 then [72, 84, 84, 80, 47, 49, 46, 48] else [72, 84, 84, 80, 47, 49, 46, 49] : List UInt8).count 32 = 0 := by split <;> rfl
  have hl := reqText_len m t k
  rw [h] at hl
  have e : s.take (s.length - 9) = m ++ [32] ++ t := by
    rw [show s.length - 9 = (m ++ [32] ++ t).length by simp; omega, ← h, reqText_of, List.append_assoc (m ++ [32] ++ t), List.take_left]
  rw [e, splitB_length]
  rw [← h, reqText_of, List.count_append, List.count_append, hv] at hc
  have h1 : ([32] : List UInt8).count 32 = 1 := rfl
  rw [h1] at hc; omega

theorem ReqlineTexts_walk (w0 : World) (hg : ErrT w0) (hR : RulesT w0) (hO : OthersT w0) (m t : List UInt8) (k : Int) : PureAt Tryd.prog 4 [.string ⟨m.toArray⟩, .string ⟨t.toArray⟩, .int .i64 k] (.bool true) w0 := by
  have hrl := reqText_len m t k
  rcases req_cases (reqText m t k) with ⟨m', t', k', hr, htx⟩ | ⟨st, a, hst, hr⟩
  all_goals try (obtain ⟨_, _, _, _, e1, e2, hkk⟩ := text_parts hr; obtain rfl : m = m' := e1.symm; obtain rfl : t = t' := e2.symm)
  all_goals (
   refine PureAt.intro go4 Tryd.func4 rfl rfl fun hp => ?_
   refine (fun (hk : ∀ w, Hp w0 [] [] w → K _ _ _ _ _ w) => hk w0 hp) fun w hp => ?_
   refine K_seq ?_
   refine K_region ?_
   refine W_assign rfl rfl ?_
   refine W_nil ?_
   refine N_then_k ?_
   refine K_seq ?_
   refine K_seq ?_
   refine K_region ?_
   refine W_acall hp rfl ((awake_spec w (hg.keep hp) (hR.keep hp) (hO.keep hp))) rfl ?_
   clear hp; intro w hp
   first
     | (refine W_not_t rfl rfl ?_)
     | (refine W_not_f rfl rfl ?_)
     | (refine W_not rfl rfl ?_)
   refine W_move rfl rfl ?_
   first
     | refine W_guard_lit_t rfl ?_
     | refine W_guard_lit_f rfl ?_
     | refine W_guard_lit_u rfl ?_
     | refine W_guard_split_d rfl rfl rfl (fun hg1 => ?_) (fun hg1 => ?_)
     | refine W_guard_split_n rfl rfl rfl (fun hg1 => ?_) (fun hg1 => ?_)
     | refine W_guard_split_nb rfl rfl rfl (fun hg1 => ?_) (fun hg1 => ?_)
     | refine W_guard_split rfl rfl rfl (fun hg1 => ?_) (fun hg1 => ?_)
   all_goals try (exfalso; first | omega | (simp only [Bool.false_eq_true, reduceCtorEq] at hg1; done) | (refine absurd hg1 ?_; with_reducible assumption) | (refine absurd ?_ hg1; with_reducible assumption))
   all_goals (
    first
      | (iterate 3 refine W_guard_no rfl rfl rfl ?_)
      | (iterate 3 refine W_guard_un rfl rfl ?_)
      | (refine W_guard_yes rfl ?_
         refine W_move rfl rfl ?_
         refine W_guard_yes rfl ?_
         refine W_len_s Tryd.underlying9 rfl rfl ?_
         refine W_guard_yes rfl ?_
         first
           | (refine W_gtr_t rfl rfl ?_ rfl ?_; (focus (omega)))
           | (refine W_gtr_f rfl rfl ?_ rfl ?_; (focus (omega)))
           | (refine W_gtr rfl rfl rfl ?_))
    first
      | (refine W_pick_t rfl rfl rfl ?_)
      | (refine W_pick_f rfl rfl rfl ?_)
      | (refine W_pick_b rfl rfl rfl rfl ?_)
    refine W_move rfl rfl ?_
    first
      | refine W_guard_lit_t rfl ?_
      | refine W_guard_lit_f rfl ?_
      | refine W_guard_lit_u rfl ?_
      | refine W_guard_split_d rfl rfl rfl (fun hg2 => ?_) (fun hg2 => ?_)
      | refine W_guard_split_n rfl rfl rfl (fun hg2 => ?_) (fun hg2 => ?_)
      | refine W_guard_split_nb rfl rfl rfl (fun hg2 => ?_) (fun hg2 => ?_)
      | refine W_guard_split rfl rfl rfl (fun hg2 => ?_) (fun hg2 => ?_)
    all_goals try (exfalso; first | omega | (simp only [Bool.false_eq_true, reduceCtorEq] at hg2; done) | (refine absurd hg2 ?_; with_reducible assumption) | (refine absurd ?_ hg2; with_reducible assumption))
    all_goals (
     first
       | (iterate 3 refine W_guard_no rfl rfl rfl ?_)
       | (iterate 3 refine W_guard_un rfl rfl ?_)
       | (refine W_guard_yes rfl ?_
          refine W_move rfl rfl ?_
          refine W_guard_yes rfl ?_
          refine W_len_s Tryd.underlying9 rfl rfl ?_
          refine W_guard_yes rfl ?_
          first
            | (refine W_gtr_t rfl rfl ?_ rfl ?_; (focus (omega)))
            | (refine W_gtr_f rfl rfl ?_ rfl ?_; (focus (omega)))
            | (refine W_gtr rfl rfl rfl ?_))
     first
       | (refine W_pick_t rfl rfl rfl ?_)
       | (refine W_pick_f rfl rfl rfl ?_)
       | (refine W_pick_b rfl rfl rfl rfl ?_)
     refine W_nil ?_
     refine N_then_k ?_
     first
       | refine K_cond_d rfl (fun hc3 => ?_) (fun hc3 => ?_)
       | refine K_cond_n rfl (fun hc3 => ?_) (fun hc3 => ?_)
       | refine K_cond_nb rfl (fun hc3 => ?_) (fun hc3 => ?_)
       | refine K_cond_t rfl (fun hc3 => ?_) (fun hc3 => ?_)
     · try (exfalso; first | omega | (simp only [Bool.false_eq_true, reduceCtorEq] at hc3; done) | (refine absurd hc3 ?_; with_reducible assumption) | (refine absurd ?_ hc3; with_reducible assumption))
       all_goals (
        refine K_seq ?_
        refine K_region ?_
        refine W_acall hp rfl ((awake_spec w (hg.keep hp) (hR.keep hp) (hO.keep hp))) rfl ?_
        clear hp; intro w hp
        refine W_assign rfl rfl ?_
        refine W_nil ?_
        refine N_then_k ?_
        refine K_ret ?_
        refine N_then_ret ?_
        refine N_done1 (.inr rfl) rfl rfl ?_
        refine ⟨_, rfl, congrArg Value.bool ?_, hp.nil⟩
        first
          | rfl
          | (rw [hkk]; simp)
          | simp_all)
     · try (exfalso; first | omega | (simp only [Bool.false_eq_true, reduceCtorEq] at hc3; done) | (refine absurd hc3 ?_; with_reducible assumption) | (refine absurd ?_ hc3; with_reducible assumption))
       all_goals (
        refine K_skip ?_
        refine N_then_k ?_
        refine K_seq ?_
        refine K_region ?_
        refine W_move rfl rfl ?_
        refine W_move rfl rfl ?_
        refine W_move rfl rfl ?_
        refine W_build3 rfl rfl rfl  (fun v0 v1 v2 => [v0, v1, v2]) (by kernel_rfl) rfl ?_
        refine W_alloc hp zv29 rfl rfl ?_
        clear hp; intro b7 w hp
        first
          | (refine W_storeF (A := []) hp rfl sz29 rfl rfl rfl rfl ?_ ?_ ?_ rfl ?_; (focus first | exact Nat.le_of_ble_eq_true rfl | omega | (simp; omega)); (focus first | exact .inl (Nat.zero_le _) | omega); (focus first | (intro v hv; simp at hv; subst hv; rfl) | (simp [Value.oneCell']; done) | (simp [Value.oneCell', strV]; done) | (simp [Value.cells, Value.oneCell', strV]; done)))
          | (refine W_storeF (A := [_]) hp rfl sz29 rfl rfl rfl rfl ?_ ?_ ?_ rfl ?_; (focus first | exact Nat.le_of_ble_eq_true rfl | omega | (simp; omega)); (focus first | exact .inl (Nat.zero_le _) | omega); (focus first | (intro v hv; simp at hv; subst hv; rfl) | (simp [Value.oneCell']; done) | (simp [Value.oneCell', strV]; done) | (simp [Value.cells, Value.oneCell', strV]; done)))
          | (refine W_storeF (A := [_, _]) hp rfl sz29 rfl rfl rfl rfl ?_ ?_ ?_ rfl ?_; (focus first | exact Nat.le_of_ble_eq_true rfl | omega | (simp; omega)); (focus first | exact .inl (Nat.zero_le _) | omega); (focus first | (intro v hv; simp at hv; subst hv; rfl) | (simp [Value.oneCell']; done) | (simp [Value.oneCell', strV]; done) | (simp [Value.cells, Value.oneCell', strV]; done)))
          | (refine W_storeF (A := [_, _, _]) hp rfl sz29 rfl rfl rfl rfl ?_ ?_ ?_ rfl ?_; (focus first | exact Nat.le_of_ble_eq_true rfl | omega | (simp; omega)); (focus first | exact .inl (Nat.zero_le _) | omega); (focus first | (intro v hv; simp at hv; subst hv; rfl) | (simp [Value.oneCell']; done) | (simp [Value.oneCell', strV]; done) | (simp [Value.cells, Value.oneCell', strV]; done)))
          | (refine W_storeF (A := [_, _, _, _]) hp rfl sz29 rfl rfl rfl rfl ?_ ?_ ?_ rfl ?_; (focus first | exact Nat.le_of_ble_eq_true rfl | omega | (simp; omega)); (focus first | exact .inl (Nat.zero_le _) | omega); (focus first | (intro v hv; simp at hv; subst hv; rfl) | (simp [Value.oneCell']; done) | (simp [Value.oneCell', strV]; done) | (simp [Value.cells, Value.oneCell', strV]; done)))
          | (refine W_storeF (A := [_, _, _, _, _]) hp rfl sz29 rfl rfl rfl rfl ?_ ?_ ?_ rfl ?_; (focus first | exact Nat.le_of_ble_eq_true rfl | omega | (simp; omega)); (focus first | exact .inl (Nat.zero_le _) | omega); (focus first | (intro v hv; simp at hv; subst hv; rfl) | (simp [Value.oneCell']; done) | (simp [Value.oneCell', strV]; done) | (simp [Value.cells, Value.oneCell', strV]; done)))
          | (refine W_storeM (A := []) hp rfl sz29 rfl rfl rfl rfl ?_ ?_ ?_ rfl ?_; (focus first | exact Nat.le_of_ble_eq_true rfl | omega | (simp; omega)); (focus first | exact .inl (Nat.zero_le _) | omega); (focus first | (intro v hv; simp at hv; subst hv; rfl) | (simp [Value.oneCell']; done) | (simp [Value.oneCell', strV]; done) | (simp [Value.cells, Value.oneCell', strV]; done)))
          | (refine W_storeM (A := [_]) hp rfl sz29 rfl rfl rfl rfl ?_ ?_ ?_ rfl ?_; (focus first | exact Nat.le_of_ble_eq_true rfl | omega | (simp; omega)); (focus first | exact .inl (Nat.zero_le _) | omega); (focus first | (intro v hv; simp at hv; subst hv; rfl) | (simp [Value.oneCell']; done) | (simp [Value.oneCell', strV]; done) | (simp [Value.cells, Value.oneCell', strV]; done)))
          | (refine W_storeM (A := [_, _]) hp rfl sz29 rfl rfl rfl rfl ?_ ?_ ?_ rfl ?_; (focus first | exact Nat.le_of_ble_eq_true rfl | omega | (simp; omega)); (focus first | exact .inl (Nat.zero_le _) | omega); (focus first | (intro v hv; simp at hv; subst hv; rfl) | (simp [Value.oneCell']; done) | (simp [Value.oneCell', strV]; done) | (simp [Value.cells, Value.oneCell', strV]; done)))
          | (refine W_storeP hp sz29 rfl rfl rfl rfl (by repeat (first | exact Pick.here | apply Pick.cons | apply Pick.app)) ?_ ?_ ?_ rfl ?_; (focus first | exact Nat.le_of_ble_eq_true rfl | omega | (simp; omega)); (focus first | exact .inl (Nat.zero_le _) | omega); (focus first | (intro v hv; simp at hv; subst hv; rfl) | (simp [Value.oneCell']; done) | (simp [Value.oneCell', strV]; done) | (simp [Value.cells, Value.oneCell', strV]; done)))
        clear hp; intro w hp
        simp only [List.nil_append, List.cons_append, List.append_nil, List.take_succ_cons, List.take_zero, List.drop_succ_cons, List.drop_zero, List.take_nil, List.drop_nil, Nat.zero_add, Nat.add_zero, Nat.reduceAdd, Int.reduceToNat, Int.toNat_natCast, Nat.reduceMul, Nat.mul_one, Nat.zero_mul] at hp
        refine W_nil ?_
        refine N_then_k ?_
        refine K_seq ?_
        refine K_region ?_
        refine W_load_own Tryd.underlying29 rfl sz29 rfl hp (by first | exact List.mem_cons_self | exact .tail _ (.head _) | exact .tail _ (.tail _ (.head _)) | exact .tail _ (.tail _ (.tail _ (.head _))) | exact .tail _ (.tail _ (.tail _ (.tail _ (.head _)))) | exact .tail _ (.tail _ (.tail _ (.tail _ (.tail _ (.head _))))) | exact List.mem_append_right _ (.head _) | exact List.mem_append_right _ (.tail _ (.head _)) | exact List.mem_append_right _ (.tail _ (.tail _ (.head _))) | exact .tail _ (List.mem_append_right _ (.head _)) | exact .tail _ (List.mem_append_right _ (.tail _ (.head _))) | assumption | (repeat (first | exact List.mem_cons_self | apply List.mem_append_right | apply List.mem_cons_of_mem))) rfl rfl rfl ?_
        refine W_acall hp rfl ((rtext_spec w m t k (by omega) (by omega))) rfl ?_
        clear hp; intro w hp
        refine W_assign rfl rfl ?_
        refine W_nil ?_
        refine N_then_k ?_
        refine K_seq ?_
        refine K_seq ?_
        refine K_region ?_
        refine W_move rfl rfl ?_
        refine W_load_own Tryd.underlying29 rfl sz29 rfl hp (by first | exact List.mem_cons_self | exact .tail _ (.head _) | exact .tail _ (.tail _ (.head _)) | exact .tail _ (.tail _ (.tail _ (.head _))) | exact .tail _ (.tail _ (.tail _ (.tail _ (.head _)))) | exact .tail _ (.tail _ (.tail _ (.tail _ (.tail _ (.head _))))) | exact List.mem_append_right _ (.head _) | exact List.mem_append_right _ (.tail _ (.head _)) | exact List.mem_append_right _ (.tail _ (.tail _ (.head _))) | exact .tail _ (List.mem_append_right _ (.head _)) | exact .tail _ (List.mem_append_right _ (.tail _ (.head _))) | assumption | (repeat (first | exact List.mem_cons_self | apply List.mem_append_right | apply List.mem_cons_of_mem))) rfl rfl rfl ?_
        refine W_acall hp rfl ((rrtext_spec w m t k (by omega) (by omega))) rfl ?_
        clear hp; intro w hp
        first
          | (refine W_sneq_f rfl rfl ?_ rfl ?_; (focus (first | rfl | assumption)))
          | (refine W_sneq_t rfl rfl ?_ rfl ?_; (focus (first | assumption | decide | exact List.cons_ne_nil _ _)))
          | (refine W_sneq rfl rfl rfl ?_)
        refine W_nil ?_
        refine N_then_k ?_
        first
          | refine K_cond_d rfl (fun hc4 => ?_) (fun hc4 => ?_)
          | refine K_cond_n rfl (fun hc4 => ?_) (fun hc4 => ?_)
          | refine K_cond_nb rfl (fun hc4 => ?_) (fun hc4 => ?_)
          | refine K_cond_t rfl (fun hc4 => ?_) (fun hc4 => ?_)
        · try (exfalso; first | omega | (simp only [Bool.false_eq_true, reduceCtorEq] at hc4; done) | (refine absurd hc4 ?_; with_reducible assumption) | (refine absurd ?_ hc4; with_reducible assumption))
          all_goals (
           refine K_seq ?_
           refine K_region ?_
           refine W_assign rfl rfl ?_
           refine W_nil ?_
           refine N_then_k ?_
           refine K_ret ?_
           refine N_then_ret ?_
           refine N_done1 (.inr rfl) rfl rfl ?_
           refine ⟨_, rfl, congrArg Value.bool ?_, hp.nil⟩
           first
             | rfl
             | (rw [hkk]; simp)
             | simp_all)
        · try (exfalso; first | omega | (simp only [Bool.false_eq_true, reduceCtorEq] at hc4; done) | (refine absurd hc4 ?_; with_reducible assumption) | (refine absurd ?_ hc4; with_reducible assumption))
          all_goals (
           refine K_skip ?_
           refine N_then_k ?_
           refine K_seq ?_
           refine K_region ?_
           refine W_move rfl rfl ?_
           refine W_acall hp rfl (((rparse_spec w (reqText m t k) (by omega)).eq (rreqV_of hr))) rfl ?_
           clear hp; intro w hp
           refine W_move rfl rfl ?_
           refine W_extract rfl rfl rfl ?_
           refine W_extract rfl rfl rfl ?_
           refine W_extract rfl rfl rfl ?_
           refine W_alloc hp zv29 rfl rfl ?_
           clear hp; intro b9 w hp
           first
             | (refine W_storeF (A := []) hp rfl sz29 rfl rfl rfl rfl ?_ ?_ ?_ rfl ?_; (focus first | exact Nat.le_of_ble_eq_true rfl | omega | (simp; omega)); (focus first | exact .inl (Nat.zero_le _) | omega); (focus first | (intro v hv; simp at hv; subst hv; rfl) | (simp [Value.oneCell']; done) | (simp [Value.oneCell', strV]; done) | (simp [Value.cells, Value.oneCell', strV]; done)))
             | (refine W_storeF (A := [_]) hp rfl sz29 rfl rfl rfl rfl ?_ ?_ ?_ rfl ?_; (focus first | exact Nat.le_of_ble_eq_true rfl | omega | (simp; omega)); (focus first | exact .inl (Nat.zero_le _) | omega); (focus first | (intro v hv; simp at hv; subst hv; rfl) | (simp [Value.oneCell']; done) | (simp [Value.oneCell', strV]; done) | (simp [Value.cells, Value.oneCell', strV]; done)))
             | (refine W_storeF (A := [_, _]) hp rfl sz29 rfl rfl rfl rfl ?_ ?_ ?_ rfl ?_; (focus first | exact Nat.le_of_ble_eq_true rfl | omega | (simp; omega)); (focus first | exact .inl (Nat.zero_le _) | omega); (focus first | (intro v hv; simp at hv; subst hv; rfl) | (simp [Value.oneCell']; done) | (simp [Value.oneCell', strV]; done) | (simp [Value.cells, Value.oneCell', strV]; done)))
             | (refine W_storeF (A := [_, _, _]) hp rfl sz29 rfl rfl rfl rfl ?_ ?_ ?_ rfl ?_; (focus first | exact Nat.le_of_ble_eq_true rfl | omega | (simp; omega)); (focus first | exact .inl (Nat.zero_le _) | omega); (focus first | (intro v hv; simp at hv; subst hv; rfl) | (simp [Value.oneCell']; done) | (simp [Value.oneCell', strV]; done) | (simp [Value.cells, Value.oneCell', strV]; done)))
             | (refine W_storeF (A := [_, _, _, _]) hp rfl sz29 rfl rfl rfl rfl ?_ ?_ ?_ rfl ?_; (focus first | exact Nat.le_of_ble_eq_true rfl | omega | (simp; omega)); (focus first | exact .inl (Nat.zero_le _) | omega); (focus first | (intro v hv; simp at hv; subst hv; rfl) | (simp [Value.oneCell']; done) | (simp [Value.oneCell', strV]; done) | (simp [Value.cells, Value.oneCell', strV]; done)))
             | (refine W_storeF (A := [_, _, _, _, _]) hp rfl sz29 rfl rfl rfl rfl ?_ ?_ ?_ rfl ?_; (focus first | exact Nat.le_of_ble_eq_true rfl | omega | (simp; omega)); (focus first | exact .inl (Nat.zero_le _) | omega); (focus first | (intro v hv; simp at hv; subst hv; rfl) | (simp [Value.oneCell']; done) | (simp [Value.oneCell', strV]; done) | (simp [Value.cells, Value.oneCell', strV]; done)))
             | (refine W_storeM (A := []) hp rfl sz29 rfl rfl rfl rfl ?_ ?_ ?_ rfl ?_; (focus first | exact Nat.le_of_ble_eq_true rfl | omega | (simp; omega)); (focus first | exact .inl (Nat.zero_le _) | omega); (focus first | (intro v hv; simp at hv; subst hv; rfl) | (simp [Value.oneCell']; done) | (simp [Value.oneCell', strV]; done) | (simp [Value.cells, Value.oneCell', strV]; done)))
             | (refine W_storeM (A := [_]) hp rfl sz29 rfl rfl rfl rfl ?_ ?_ ?_ rfl ?_; (focus first | exact Nat.le_of_ble_eq_true rfl | omega | (simp; omega)); (focus first | exact .inl (Nat.zero_le _) | omega); (focus first | (intro v hv; simp at hv; subst hv; rfl) | (simp [Value.oneCell']; done) | (simp [Value.oneCell', strV]; done) | (simp [Value.cells, Value.oneCell', strV]; done)))
             | (refine W_storeM (A := [_, _]) hp rfl sz29 rfl rfl rfl rfl ?_ ?_ ?_ rfl ?_; (focus first | exact Nat.le_of_ble_eq_true rfl | omega | (simp; omega)); (focus first | exact .inl (Nat.zero_le _) | omega); (focus first | (intro v hv; simp at hv; subst hv; rfl) | (simp [Value.oneCell']; done) | (simp [Value.oneCell', strV]; done) | (simp [Value.cells, Value.oneCell', strV]; done)))
             | (refine W_storeP hp sz29 rfl rfl rfl rfl (by repeat (first | exact Pick.here | apply Pick.cons | apply Pick.app)) ?_ ?_ ?_ rfl ?_; (focus first | exact Nat.le_of_ble_eq_true rfl | omega | (simp; omega)); (focus first | exact .inl (Nat.zero_le _) | omega); (focus first | (intro v hv; simp at hv; subst hv; rfl) | (simp [Value.oneCell']; done) | (simp [Value.oneCell', strV]; done) | (simp [Value.cells, Value.oneCell', strV]; done)))
           clear hp; intro w hp
           simp only [List.nil_append, List.cons_append, List.append_nil, List.take_succ_cons, List.take_zero, List.drop_succ_cons, List.drop_zero, List.take_nil, List.drop_nil, Nat.zero_add, Nat.add_zero, Nat.reduceAdd, Int.reduceToNat, Int.toNat_natCast, Nat.reduceMul, Nat.mul_one, Nat.zero_mul] at hp
           refine W_assign rfl rfl ?_
           refine W_assign rfl rfl ?_
           refine W_nil ?_
           refine N_then_k ?_
           refine K_seq ?_
           refine K_region ?_
           refine W_move rfl rfl ?_
           first
             | (refine W_acall hp rfl ((parse_spec w (hR.keep hp) (reqText m t k) (by omega)).eq (reqV_ok hr)) rfl ?_)
             | (refine W_acall hp rfl ((parse_spec w (hR.keep hp) (reqText m t k) (by omega)).eq (reqV_bad hst hr)) rfl ?_)
           clear hp; intro w hp
           refine W_move rfl rfl ?_
           refine W_extract rfl rfl rfl ?_
           refine W_extract rfl rfl rfl ?_
           refine W_alloc hp zv24 rfl rfl ?_
           clear hp; intro b12 w hp
           first
             | (refine W_storeF (A := []) hp rfl sz24 rfl rfl rfl rfl ?_ ?_ ?_ rfl ?_; (focus first | exact Nat.le_of_ble_eq_true rfl | omega | (simp; omega)); (focus first | exact .inl (Nat.zero_le _) | omega); (focus first | (intro v hv; simp at hv; subst hv; rfl) | (simp [Value.oneCell']; done) | (simp [Value.oneCell', strV]; done) | (simp [Value.cells, Value.oneCell', strV]; done)))
             | (refine W_storeF (A := [_]) hp rfl sz24 rfl rfl rfl rfl ?_ ?_ ?_ rfl ?_; (focus first | exact Nat.le_of_ble_eq_true rfl | omega | (simp; omega)); (focus first | exact .inl (Nat.zero_le _) | omega); (focus first | (intro v hv; simp at hv; subst hv; rfl) | (simp [Value.oneCell']; done) | (simp [Value.oneCell', strV]; done) | (simp [Value.cells, Value.oneCell', strV]; done)))
             | (refine W_storeF (A := [_, _]) hp rfl sz24 rfl rfl rfl rfl ?_ ?_ ?_ rfl ?_; (focus first | exact Nat.le_of_ble_eq_true rfl | omega | (simp; omega)); (focus first | exact .inl (Nat.zero_le _) | omega); (focus first | (intro v hv; simp at hv; subst hv; rfl) | (simp [Value.oneCell']; done) | (simp [Value.oneCell', strV]; done) | (simp [Value.cells, Value.oneCell', strV]; done)))
             | (refine W_storeF (A := [_, _, _]) hp rfl sz24 rfl rfl rfl rfl ?_ ?_ ?_ rfl ?_; (focus first | exact Nat.le_of_ble_eq_true rfl | omega | (simp; omega)); (focus first | exact .inl (Nat.zero_le _) | omega); (focus first | (intro v hv; simp at hv; subst hv; rfl) | (simp [Value.oneCell']; done) | (simp [Value.oneCell', strV]; done) | (simp [Value.cells, Value.oneCell', strV]; done)))
             | (refine W_storeF (A := [_, _, _, _]) hp rfl sz24 rfl rfl rfl rfl ?_ ?_ ?_ rfl ?_; (focus first | exact Nat.le_of_ble_eq_true rfl | omega | (simp; omega)); (focus first | exact .inl (Nat.zero_le _) | omega); (focus first | (intro v hv; simp at hv; subst hv; rfl) | (simp [Value.oneCell']; done) | (simp [Value.oneCell', strV]; done) | (simp [Value.cells, Value.oneCell', strV]; done)))
             | (refine W_storeF (A := [_, _, _, _, _]) hp rfl sz24 rfl rfl rfl rfl ?_ ?_ ?_ rfl ?_; (focus first | exact Nat.le_of_ble_eq_true rfl | omega | (simp; omega)); (focus first | exact .inl (Nat.zero_le _) | omega); (focus first | (intro v hv; simp at hv; subst hv; rfl) | (simp [Value.oneCell']; done) | (simp [Value.oneCell', strV]; done) | (simp [Value.cells, Value.oneCell', strV]; done)))
             | (refine W_storeM (A := []) hp rfl sz24 rfl rfl rfl rfl ?_ ?_ ?_ rfl ?_; (focus first | exact Nat.le_of_ble_eq_true rfl | omega | (simp; omega)); (focus first | exact .inl (Nat.zero_le _) | omega); (focus first | (intro v hv; simp at hv; subst hv; rfl) | (simp [Value.oneCell']; done) | (simp [Value.oneCell', strV]; done) | (simp [Value.cells, Value.oneCell', strV]; done)))
             | (refine W_storeM (A := [_]) hp rfl sz24 rfl rfl rfl rfl ?_ ?_ ?_ rfl ?_; (focus first | exact Nat.le_of_ble_eq_true rfl | omega | (simp; omega)); (focus first | exact .inl (Nat.zero_le _) | omega); (focus first | (intro v hv; simp at hv; subst hv; rfl) | (simp [Value.oneCell']; done) | (simp [Value.oneCell', strV]; done) | (simp [Value.cells, Value.oneCell', strV]; done)))
             | (refine W_storeM (A := [_, _]) hp rfl sz24 rfl rfl rfl rfl ?_ ?_ ?_ rfl ?_; (focus first | exact Nat.le_of_ble_eq_true rfl | omega | (simp; omega)); (focus first | exact .inl (Nat.zero_le _) | omega); (focus first | (intro v hv; simp at hv; subst hv; rfl) | (simp [Value.oneCell']; done) | (simp [Value.oneCell', strV]; done) | (simp [Value.cells, Value.oneCell', strV]; done)))
             | (refine W_storeP hp sz24 rfl rfl rfl rfl (by repeat (first | exact Pick.here | apply Pick.cons | apply Pick.app)) ?_ ?_ ?_ rfl ?_; (focus first | exact Nat.le_of_ble_eq_true rfl | omega | (simp; omega)); (focus first | exact .inl (Nat.zero_le _) | omega); (focus first | (intro v hv; simp at hv; subst hv; rfl) | (simp [Value.oneCell']; done) | (simp [Value.oneCell', strV]; done) | (simp [Value.cells, Value.oneCell', strV]; done)))
           clear hp; intro w hp
           simp only [List.nil_append, List.cons_append, List.append_nil, List.take_succ_cons, List.take_zero, List.drop_succ_cons, List.drop_zero, List.take_nil, List.drop_nil, Nat.zero_add, Nat.add_zero, Nat.reduceAdd, Int.reduceToNat, Int.toNat_natCast, Nat.reduceMul, Nat.mul_one, Nat.zero_mul] at hp
           refine W_assign rfl rfl ?_
           refine W_nil ?_
           refine N_then_k ?_
           refine K_seq ?_
           refine K_seq ?_
           refine K_region ?_
           refine W_move rfl rfl ?_
           first
             | (refine W_neq_t rfl rfl ?_ rfl ?_; (focus (omega)))
             | (refine W_neq_f rfl rfl ?_ rfl ?_; (focus (omega)))
             | (refine W_neq rfl rfl rfl ?_)
           refine W_nil ?_
           refine N_then_k ?_
           first
             | refine K_cond_d rfl (fun hc5 => ?_) (fun hc5 => ?_)
             | refine K_cond_n rfl (fun hc5 => ?_) (fun hc5 => ?_)
             | refine K_cond_nb rfl (fun hc5 => ?_) (fun hc5 => ?_)
             | refine K_cond_t rfl (fun hc5 => ?_) (fun hc5 => ?_)
           · try (exfalso; first | omega | (simp only [Bool.false_eq_true, reduceCtorEq] at hc5; done) | (refine absurd hc5 ?_; with_reducible assumption) | (refine absurd ?_ hc5; with_reducible assumption))
             all_goals (
              refine K_seq ?_
              refine K_region ?_
              refine W_move rfl rfl ?_
              first
                | (refine W_val rfl (inb_of rfl) (R_bin (a := .nilIface) (v := .bool false) rfl rfl (by kernel_rfl)) ?_)
                | (refine W_val rfl (inb_of rfl) (R_bin (v := .bool true) rfl rfl (by kernel_rfl)) ?_)
              refine W_assign rfl rfl ?_
              refine W_nil ?_
              refine N_then_k ?_
              refine K_ret ?_
              refine N_then_ret ?_
              refine N_done1 (.inr rfl) rfl rfl ?_
              refine ⟨_, rfl, congrArg Value.bool ?_, hp.nil⟩
              first
                | rfl
                | (rw [hkk]; simp)
                | simp_all)
           · try (exfalso; first | omega | (simp only [Bool.false_eq_true, reduceCtorEq] at hc5; done) | (refine absurd hc5 ?_; with_reducible assumption) | (refine absurd ?_ hc5; with_reducible assumption))
             all_goals (
              refine K_skip ?_
              refine N_then_k ?_
              refine K_seq ?_
              refine K_region ?_
              refine W_move rfl rfl ?_
              first
                | (refine W_val rfl (inb_of rfl) (R_bin (a := .nilIface) (v := .bool true) rfl rfl (by kernel_rfl)) ?_)
                | (refine W_val rfl (inb_of rfl) (R_bin (v := .bool false) rfl rfl (by kernel_rfl)) ?_)
              refine W_move rfl rfl ?_
              first
                | refine W_guard_lit_t rfl ?_
                | refine W_guard_lit_f rfl ?_
                | refine W_guard_lit_u rfl ?_
                | refine W_guard_split_d rfl rfl rfl (fun hg6 => ?_) (fun hg6 => ?_)
                | refine W_guard_split_n rfl rfl rfl (fun hg6 => ?_) (fun hg6 => ?_)
                | refine W_guard_split_nb rfl rfl rfl (fun hg6 => ?_) (fun hg6 => ?_)
                | refine W_guard_split rfl rfl rfl (fun hg6 => ?_) (fun hg6 => ?_)
              all_goals try (exfalso; first | omega | (simp only [Bool.false_eq_true, reduceCtorEq] at hg6; done) | (refine absurd hg6 ?_; with_reducible assumption) | (refine absurd ?_ hg6; with_reducible assumption))
              all_goals (
               first
                 | (iterate 3 refine W_guard_no rfl rfl rfl ?_)
                 | (iterate 3 refine W_guard_un rfl rfl ?_)
                 | (refine W_guard_yes rfl ?_
                    refine W_load_own Tryd.underlying24 rfl sz24 rfl hp (by first | exact List.mem_cons_self | exact .tail _ (.head _) | exact .tail _ (.tail _ (.head _)) | exact .tail _ (.tail _ (.tail _ (.head _))) | exact .tail _ (.tail _ (.tail _ (.tail _ (.head _)))) | exact .tail _ (.tail _ (.tail _ (.tail _ (.tail _ (.head _))))) | exact List.mem_append_right _ (.head _) | exact List.mem_append_right _ (.tail _ (.head _)) | exact List.mem_append_right _ (.tail _ (.tail _ (.head _))) | exact .tail _ (List.mem_append_right _ (.head _)) | exact .tail _ (List.mem_append_right _ (.tail _ (.head _))) | assumption | (repeat (first | exact List.mem_cons_self | apply List.mem_append_right | apply List.mem_cons_of_mem))) rfl rfl rfl ?_
                    refine W_guard_yes rfl ?_
                    refine W_load_own Tryd.underlying29 rfl sz29 rfl hp (by first | exact List.mem_cons_self | exact .tail _ (.head _) | exact .tail _ (.tail _ (.head _)) | exact .tail _ (.tail _ (.tail _ (.head _))) | exact .tail _ (.tail _ (.tail _ (.tail _ (.head _)))) | exact .tail _ (.tail _ (.tail _ (.tail _ (.tail _ (.head _))))) | exact List.mem_append_right _ (.head _) | exact List.mem_append_right _ (.tail _ (.head _)) | exact List.mem_append_right _ (.tail _ (.tail _ (.head _))) | exact .tail _ (List.mem_append_right _ (.head _)) | exact .tail _ (List.mem_append_right _ (.tail _ (.head _))) | assumption | (repeat (first | exact List.mem_cons_self | apply List.mem_append_right | apply List.mem_cons_of_mem))) rfl rfl rfl ?_
                    refine W_guard_yes rfl ?_
                    refine W_aeql_t (by kernel_rfl) rfl rfl ?_ ?_ rfl ?_
                    (focus (first | rfl | assumption))
                    (focus (first | rfl | kernel_rfl)))
               first
                 | (refine W_pick_t rfl rfl rfl ?_)
                 | (refine W_pick_f rfl rfl rfl ?_)
                 | (refine W_pick_b rfl rfl rfl rfl ?_)
               refine W_move rfl rfl ?_
               first
                 | refine W_guard_lit_t rfl ?_
                 | refine W_guard_lit_f rfl ?_
                 | refine W_guard_lit_u rfl ?_
                 | refine W_guard_split_d rfl rfl rfl (fun hg7 => ?_) (fun hg7 => ?_)
                 | refine W_guard_split_n rfl rfl rfl (fun hg7 => ?_) (fun hg7 => ?_)
                 | refine W_guard_split_nb rfl rfl rfl (fun hg7 => ?_) (fun hg7 => ?_)
                 | refine W_guard_split rfl rfl rfl (fun hg7 => ?_) (fun hg7 => ?_)
               all_goals try (exfalso; first | omega | (simp only [Bool.false_eq_true, reduceCtorEq] at hg7; done) | (refine absurd hg7 ?_; with_reducible assumption) | (refine absurd ?_ hg7; with_reducible assumption))
               all_goals (
                first
                  | (iterate 4 refine W_guard_no rfl rfl rfl ?_)
                  | (iterate 4 refine W_guard_un rfl rfl ?_)
                  | (refine W_guard_yes rfl ?_
                     refine W_fieldAddr Tryd.underlying24 rfl sz9 rfl rfl ?_
                     refine W_guard_yes rfl ?_
                     refine W_load_s Tryd.underlying9 rfl rfl (by first | exact hp.cellF (by first | exact List.mem_cons_self | exact .tail _ (.head _) | exact .tail _ (.tail _ (.head _)) | exact .tail _ (.tail _ (.tail _ (.head _))) | exact .tail _ (.tail _ (.tail _ (.tail _ (.head _)))) | exact .tail _ (.tail _ (.tail _ (.tail _ (.tail _ (.head _))))) | exact List.mem_append_right _ (.head _) | exact List.mem_append_right _ (.tail _ (.head _)) | exact List.mem_append_right _ (.tail _ (.tail _ (.head _))) | exact .tail _ (List.mem_append_right _ (.head _)) | exact .tail _ (List.mem_append_right _ (.tail _ (.head _))) | assumption | (repeat (first | exact List.mem_cons_self | apply List.mem_append_right | apply List.mem_cons_of_mem))) rfl | exact hp.cellM (by first | exact List.mem_cons_self | exact .tail _ (.head _) | exact .tail _ (.tail _ (.head _)) | exact .tail _ (.tail _ (.tail _ (.head _))) | exact .tail _ (.tail _ (.tail _ (.tail _ (.head _)))) | exact .tail _ (.tail _ (.tail _ (.tail _ (.tail _ (.head _))))) | exact List.mem_append_right _ (.head _) | exact List.mem_append_right _ (.tail _ (.head _)) | exact List.mem_append_right _ (.tail _ (.tail _ (.head _))) | exact .tail _ (List.mem_append_right _ (.head _)) | exact .tail _ (List.mem_append_right _ (.tail _ (.head _))) | assumption | (repeat (first | exact List.mem_cons_self | apply List.mem_append_right | apply List.mem_cons_of_mem))) rfl | exact hp.cell_old0 ‹_› | (refine hp.cell_old0 ?_; assumption) | (apply hp.cellF (by assumption); rfl)) rfl ?_
                     refine W_guard_yes rfl ?_
                     refine W_move rfl rfl ?_
                     refine W_guard_yes rfl ?_
                     first
                       | (refine W_seql_t rfl rfl ?_ rfl ?_; (focus (first | rfl | assumption)))
                       | (refine W_seql_f rfl rfl ?_ rfl ?_; (focus (first | assumption | decide | exact List.cons_ne_nil _ _)))
                       | (refine W_seql rfl rfl rfl ?_))
                first
                  | (refine W_pick_t rfl rfl rfl ?_)
                  | (refine W_pick_f rfl rfl rfl ?_)
                  | (refine W_pick_b rfl rfl rfl rfl ?_)
                refine W_move rfl rfl ?_
                first
                  | refine W_guard_lit_t rfl ?_
                  | refine W_guard_lit_f rfl ?_
                  | refine W_guard_lit_u rfl ?_
                  | refine W_guard_split_d rfl rfl rfl (fun hg8 => ?_) (fun hg8 => ?_)
                  | refine W_guard_split_n rfl rfl rfl (fun hg8 => ?_) (fun hg8 => ?_)
                  | refine W_guard_split_nb rfl rfl rfl (fun hg8 => ?_) (fun hg8 => ?_)
                  | refine W_guard_split rfl rfl rfl (fun hg8 => ?_) (fun hg8 => ?_)
                all_goals try (exfalso; first | omega | (simp only [Bool.false_eq_true, reduceCtorEq] at hg8; done) | (refine absurd hg8 ?_; with_reducible assumption) | (refine absurd ?_ hg8; with_reducible assumption))
                all_goals (
                 first
                   | (iterate 4 refine W_guard_no rfl rfl rfl ?_)
                   | (iterate 4 refine W_guard_un rfl rfl ?_)
                   | (refine W_guard_yes rfl ?_
                      refine W_fieldAddr Tryd.underlying24 rfl sz9 rfl rfl ?_
                      refine W_guard_yes rfl ?_
                      refine W_load_s Tryd.underlying9 rfl rfl (by first | exact hp.cellF (by first | exact List.mem_cons_self | exact .tail _ (.head _) | exact .tail _ (.tail _ (.head _)) | exact .tail _ (.tail _ (.tail _ (.head _))) | exact .tail _ (.tail _ (.tail _ (.tail _ (.head _)))) | exact .tail _ (.tail _ (.tail _ (.tail _ (.tail _ (.head _))))) | exact List.mem_append_right _ (.head _) | exact List.mem_append_right _ (.tail _ (.head _)) | exact List.mem_append_right _ (.tail _ (.tail _ (.head _))) | exact .tail _ (List.mem_append_right _ (.head _)) | exact .tail _ (List.mem_append_right _ (.tail _ (.head _))) | assumption | (repeat (first | exact List.mem_cons_self | apply List.mem_append_right | apply List.mem_cons_of_mem))) rfl | exact hp.cellM (by first | exact List.mem_cons_self | exact .tail _ (.head _) | exact .tail _ (.tail _ (.head _)) | exact .tail _ (.tail _ (.tail _ (.head _))) | exact .tail _ (.tail _ (.tail _ (.tail _ (.head _)))) | exact .tail _ (.tail _ (.tail _ (.tail _ (.tail _ (.head _))))) | exact List.mem_append_right _ (.head _) | exact List.mem_append_right _ (.tail _ (.head _)) | exact List.mem_append_right _ (.tail _ (.tail _ (.head _))) | exact .tail _ (List.mem_append_right _ (.head _)) | exact .tail _ (List.mem_append_right _ (.tail _ (.head _))) | assumption | (repeat (first | exact List.mem_cons_self | apply List.mem_append_right | apply List.mem_cons_of_mem))) rfl | exact hp.cell_old0 ‹_› | (refine hp.cell_old0 ?_; assumption) | (apply hp.cellF (by assumption); rfl)) rfl ?_
                      refine W_guard_yes rfl ?_
                      refine W_move rfl rfl ?_
                      refine W_guard_yes rfl ?_
                      first
                        | (refine W_seql_t rfl rfl ?_ rfl ?_; (focus (first | rfl | assumption)))
                        | (refine W_seql_f rfl rfl ?_ rfl ?_; (focus (first | assumption | decide | exact List.cons_ne_nil _ _)))
                        | (refine W_seql rfl rfl rfl ?_))
                 first
                   | (refine W_pick_t rfl rfl rfl ?_)
                   | (refine W_pick_f rfl rfl rfl ?_)
                   | (refine W_pick_b rfl rfl rfl rfl ?_)
                 refine W_move rfl rfl ?_
                 first
                   | refine W_guard_lit_t rfl ?_
                   | refine W_guard_lit_f rfl ?_
                   | refine W_guard_lit_u rfl ?_
                   | refine W_guard_split_d rfl rfl rfl (fun hg9 => ?_) (fun hg9 => ?_)
                   | refine W_guard_split_n rfl rfl rfl (fun hg9 => ?_) (fun hg9 => ?_)
                   | refine W_guard_split_nb rfl rfl rfl (fun hg9 => ?_) (fun hg9 => ?_)
                   | refine W_guard_split rfl rfl rfl (fun hg9 => ?_) (fun hg9 => ?_)
                 all_goals try (exfalso; first | omega | (simp only [Bool.false_eq_true, reduceCtorEq] at hg9; done) | (refine absurd hg9 ?_; with_reducible assumption) | (refine absurd ?_ hg9; with_reducible assumption))
                 all_goals (
                  first
                    | (iterate 6 refine W_guard_no rfl rfl rfl ?_)
                    | (iterate 6 refine W_guard_un rfl rfl ?_)
                    | (refine W_guard_yes rfl ?_
                       refine W_fieldAddr Tryd.underlying24 rfl sz3 rfl rfl ?_
                       refine W_guard_yes rfl ?_
                       refine W_load_s Tryd.underlying3 rfl rfl (by first | exact hp.cellF (by first | exact List.mem_cons_self | exact .tail _ (.head _) | exact .tail _ (.tail _ (.head _)) | exact .tail _ (.tail _ (.tail _ (.head _))) | exact .tail _ (.tail _ (.tail _ (.tail _ (.head _)))) | exact .tail _ (.tail _ (.tail _ (.tail _ (.tail _ (.head _))))) | exact List.mem_append_right _ (.head _) | exact List.mem_append_right _ (.tail _ (.head _)) | exact List.mem_append_right _ (.tail _ (.tail _ (.head _))) | exact .tail _ (List.mem_append_right _ (.head _)) | exact .tail _ (List.mem_append_right _ (.tail _ (.head _))) | assumption | (repeat (first | exact List.mem_cons_self | apply List.mem_append_right | apply List.mem_cons_of_mem))) rfl | exact hp.cellM (by first | exact List.mem_cons_self | exact .tail _ (.head _) | exact .tail _ (.tail _ (.head _)) | exact .tail _ (.tail _ (.tail _ (.head _))) | exact .tail _ (.tail _ (.tail _ (.tail _ (.head _)))) | exact .tail _ (.tail _ (.tail _ (.tail _ (.tail _ (.head _))))) | exact List.mem_append_right _ (.head _) | exact List.mem_append_right _ (.tail _ (.head _)) | exact List.mem_append_right _ (.tail _ (.tail _ (.head _))) | exact .tail _ (List.mem_append_right _ (.head _)) | exact .tail _ (List.mem_append_right _ (.tail _ (.head _))) | assumption | (repeat (first | exact List.mem_cons_self | apply List.mem_append_right | apply List.mem_cons_of_mem))) rfl | exact hp.cell_old0 ‹_› | (refine hp.cell_old0 ?_; assumption) | (apply hp.cellF (by assumption); rfl)) rfl ?_
                       refine W_guard_yes rfl ?_
                       first
                         | (refine W_eql_t rfl rfl ?_ rfl ?_; (focus (omega)))
                         | (refine W_eql_f rfl rfl ?_ rfl ?_; (focus (omega)))
                         | (refine W_eql rfl rfl rfl ?_)
                       refine W_guard_yes rfl ?_
                       refine W_move rfl rfl ?_
                       refine W_guard_yes rfl ?_
                       first
                         | (refine W_eql_t rfl rfl ?_ rfl ?_; (focus (omega)))
                         | (refine W_eql_f rfl rfl ?_ rfl ?_; (focus (omega)))
                         | (refine W_eql rfl rfl rfl ?_)
                       refine W_guard_yes rfl ?_
                       first
                         | (refine W_beql_t Tryd.underlying4 rfl rfl rfl rfl ?_)
                         | (refine W_beql_f Tryd.underlying4 rfl rfl rfl rfl ?_)
                         | (refine W_beql Tryd.underlying4 rfl rfl rfl ?_))
                  first
                    | (refine W_pick_t rfl rfl rfl ?_)
                    | (refine W_pick_f rfl rfl rfl ?_)
                    | (refine W_pick_b rfl rfl rfl rfl ?_)
                  refine W_assign rfl rfl ?_
                  refine W_nil ?_
                  refine N_then_k ?_
                  refine K_ret ?_
                  refine N_done1 (.inr rfl) rfl rfl ?_
                  refine ⟨_, rfl, congrArg Value.bool ?_, hp.nil⟩
                  first
                    | rfl
                    | (rw [hkk]; simp)
                    | simp_all))))))))))

end Go.Proofs.YtcanebnegfnhdaaDoor
