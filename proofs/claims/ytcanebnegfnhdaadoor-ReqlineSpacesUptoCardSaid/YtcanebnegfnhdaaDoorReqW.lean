/-
  reqline.Parse, walked.
-/
import Derived.Test.YtcanebnegfnhdaaDoorReqP
namespace Go.Proofs.YtcanebnegfnhdaaDoor
open Go.Sx Go.RowKit
set_option linter.unusedVariables false
set_option linter.unusedSimpArgs false
set_option maxRecDepth 100000

theorem split_join (c : UInt8) (s : List UInt8) : joinB [c] (splitB c s) = s := by
  induction s with
  | nil => rfl
  | cons x s ih =>
    rw [splitB_cons]
    cases hs : splitB c s with
    | nil => exact absurd hs (splitB_ne c s)
    | cons y r =>
      rw [hs] at ih
      have ih' : y ++ (r.flatMap fun z => [c] ++ z) = s := ih
      by_cases h : x = c
      · subst h
        rw [if_pos rfl]
        show [] ++ (([x] ++ y) ++ r.flatMap fun z => [x] ++ z) = _
        rw [List.nil_append, List.append_assoc, ih']; rfl
      · rw [if_neg h]
        show (x :: y) ++ (r.flatMap fun z => [c] ++ z) = _
        rw [List.cons_append, ih']
theorem split_three {s m t v : List UInt8} (h : [m, t, v] = splitB 32 s) : s = m ++ [32] ++ t ++ [32] ++ v := by
  have := split_join 32 s
  rw [← h] at this
  rw [← this]; simp [joinB]
theorem ver_len {v : List UInt8} (h : verB v = true) : v.length = 8 ∧ 48 ≤ (v.getD 7 0).toNat ∧ (v.getD 7 0).toNat ≤ 57 := by
  unfold verB digitB at h
  simp only [Bool.and_eq_true, decide_eq_true_eq] at h
  exact ⟨h.1.1.1.2, h.2.1, h.2.2⟩
theorem last_at {s m t v : List UInt8} (h : s = m ++ [32] ++ t ++ [32] ++ v) (hv : v.length = 8) : s[s.length - 1]? = some (v.getD 7 0) := by
  have e : s.length - 1 = (m ++ [32] ++ t ++ [32]).length + 7 := by rw [h]; simp [hv]; omega
  rw [e]
  conv => lhs; rw [h]
  rw [List.getElem?_append_right (by omega), Nat.add_sub_cancel_left, List.getD_eq_getElem?_getD]
  rw [List.getElem?_eq_getElem (by omega)]; rfl

set_option maxHeartbeats 1000000 in
theorem parse_spec (w0 : World) (hR : RulesT w0) (s : List UInt8) (hl : s.length ≤ 100000) : PureAt Tryd.prog 9 [.string ⟨s.toArray⟩] (reqV (reqL (splitB 32 s))) w0 := by
  obtain ⟨L, hL⟩ : ∃ L, L = splitB 32 s := ⟨_, rfl⟩
  refine PureAt.intro go9 Tryd.func9 rfl rfl fun hp => ?_
  refine (fun (hk : ∀ w, Hp w0 [] [] w → K _ _ _ _ _ w) => hk w0 hp) fun w hp => ?_
  refine K_seq ?_
  refine K_region ?_
  refine W_alloc hp zv24 rfl rfl ?_
  clear hp; intro b2 w hp
  refine W_assign rfl rfl ?_
  refine W_nil ?_
  refine N_then_k ?_
  refine K_seq ?_
  refine K_region ?_
  refine W_move rfl rfl ?_
  refine W_bcall hp rfl ((split_spec w s 32 (by omega))) rfl ?_
  clear hp; intro v9 G9 w r9 hp
  rw [← hL] at r9
  obtain ⟨A9, c9, rfl⟩ := r9.form
  have hroom := OS.room (show OS _ _ _ _ _ _ from r9)
  refine W_assign rfl rfl ?_
  refine W_nil ?_
  refine N_then_k ?_
  refine K_seq ?_
  refine K_seq ?_
  refine K_region ?_
  refine W_move rfl rfl ?_
  refine W_len_sl Tryd.underlying38 rfl rfl ?_
  first
    | (refine W_neq_t rfl rfl ?_ rfl ?_; (focus (omega)))
    | (refine W_neq_f rfl rfl ?_ rfl ?_; (focus (omega)))
    | (refine W_neq rfl rfl rfl ?_)
  refine W_nil ?_
  refine N_then_k ?_
  first
    | refine K_cond_d rfl (fun hc1 => ?_) (fun hc1 => ?_)
    | refine K_cond_n rfl (fun hc1 => ?_) (fun hc1 => ?_)
    | refine K_cond_nb rfl (fun hc1 => ?_) (fun hc1 => ?_)
    | refine K_cond_t rfl (fun hc1 => ?_) (fun hc1 => ?_)
  · try (exfalso; first | omega | (simp only [Bool.false_eq_true, reduceCtorEq] at hc1; done) | (refine absurd hc1 ?_; with_reducible assumption) | (refine absurd ?_ hc1; with_reducible assumption))
    all_goals (
     refine K_seq ?_
     refine K_region ?_
     refine W_build0  ([(.string ⟨#[]⟩), (.string ⟨#[]⟩), (.int .i64 0)]) (by kernel_rfl) rfl ?_
     refine W_pcall hp rfl (fault_new 400 0) rfl ?_
     clear hp; intro w hp
     first
       | (refine W_storeF (A := []) hp rfl sz24 rfl rfl rfl rfl ?_ ?_ ?_ rfl ?_; (focus first | exact Nat.le_of_ble_eq_true rfl | omega | (simp; omega)); (focus first | exact .inl (Nat.zero_le _) | omega); (focus first | (intro v hv; simp at hv; subst hv; rfl) | (simp [Value.oneCell']; done) | (simp [Value.oneCell', strV]; done) | (simp [Value.cells, Value.oneCell', strV]; done)))
       | (refine W_storeF (A := [_]) hp rfl sz24 rfl rfl rfl rfl ?_ ?_ ?_ rfl ?_; (focus first | exact Nat.le_of_ble_eq_true rfl | omega | (simp; omega)); (focus first | exact .inl (Nat.zero_le _) | omega); (focus first | (intro v hv; simp at hv; subst hv; rfl) | (simp [Value.oneCell']; done) | (simp [Value.oneCell', strV]; done) | (simp [Value.cells, Value.oneCell', strV]; done)))
       | (refine W_storeF (A := [_, _]) hp rfl sz24 rfl rfl rfl rfl ?_ ?_ ?_ rfl ?_; (focus first | exact Nat.le_of_ble_eq_true rfl | omega | (simp; omega)); (focus first | exact .inl (Nat.zero_le _) | omega); (focus first | (intro v hv; simp at hv; subst hv; rfl) | (simp [Value.oneCell']; done) | (simp [Value.oneCell', strV]; done) | (simp [Value.cells, Value.oneCell', strV]; done)))
       | (refine W_storeF (A := [_, _, _]) hp rfl sz24 rfl rfl rfl rfl ?_ ?_ ?_ rfl ?_; (focus first | exact Nat.le_of_ble_eq_true rfl | omega | (simp; omega)); (focus first | exact .inl (Nat.zero_le _) | omega); (focus first | (intro v hv; simp at hv; subst hv; rfl) | (simp [Value.oneCell']; done) | (simp [Value.oneCell', strV]; done) | (simp [Value.cells, Value.oneCell', strV]; done)))
       | (refine W_storeF (A := [_, _, _, _]) hp rfl sz24 rfl rfl rfl rfl ?_ ?_ ?_ rfl ?_; (focus first | exact Nat.le_of_ble_eq_true rfl | omega | (simp; omega)); (focus first | exact .inl (Nat.zero_le _) | omega); (focus first | (intro v hv; simp at hv; subst hv; rfl) | (simp [Value.oneCell']; done) | (simp [Value.oneCell', strV]; done) | (simp [Value.cells, Value.oneCell', strV]; done)))
       | (refine W_storeF (A := [_, _, _, _, _]) hp rfl sz24 rfl rfl rfl rfl ?_ ?_ ?_ rfl ?_; (focus first | exact Nat.le_of_ble_eq_true rfl | omega | (simp; omega)); (focus first | exact .inl (Nat.zero_le _) | omega); (focus first | (intro v hv; simp at hv; subst hv; rfl) | (simp [Value.oneCell']; done) | (simp [Value.oneCell', strV]; done) | (simp [Value.cells, Value.oneCell', strV]; done)))
       | (refine W_storeM (A := []) hp rfl sz24 rfl rfl rfl rfl ?_ ?_ ?_ rfl ?_; (focus first | exact Nat.le_of_ble_eq_true rfl | omega | (simp; omega)); (focus first | exact .inl (Nat.zero_le _) | omega); (focus first | (intro v hv; simp at hv; subst hv; rfl) | (simp [Value.oneCell']; done) | (simp [Value.oneCell', strV]; done) | (simp [Value.cells, Value.oneCell', strV]; done)))
       | (refine W_storeM (A := [_]) hp rfl sz24 rfl rfl rfl rfl ?_ ?_ ?_ rfl ?_; (focus first | exact Nat.le_of_ble_eq_true rfl | omega | (simp; omega)); (focus first | exact .inl (Nat.zero_le _) | omega); (focus first | (intro v hv; simp at hv; subst hv; rfl) | (simp [Value.oneCell']; done) | (simp [Value.oneCell', strV]; done) | (simp [Value.cells, Value.oneCell', strV]; done)))
       | (refine W_storeM (A := [_, _]) hp rfl sz24 rfl rfl rfl rfl ?_ ?_ ?_ rfl ?_; (focus first | exact Nat.le_of_ble_eq_true rfl | omega | (simp; omega)); (focus first | exact .inl (Nat.zero_le _) | omega); (focus first | (intro v hv; simp at hv; subst hv; rfl) | (simp [Value.oneCell']; done) | (simp [Value.oneCell', strV]; done) | (simp [Value.cells, Value.oneCell', strV]; done)))
       | (refine W_storeP hp sz24 rfl rfl rfl rfl (by repeat (first | exact Pick.here | apply Pick.cons | apply Pick.app)) ?_ ?_ ?_ rfl ?_; (focus first | exact Nat.le_of_ble_eq_true rfl | omega | (simp; omega)); (focus first | exact .inl (Nat.zero_le _) | omega); (focus first | (intro v hv; simp at hv; subst hv; rfl) | (simp [Value.oneCell']; done) | (simp [Value.oneCell', strV]; done) | (simp [Value.cells, Value.oneCell', strV]; done)))
     clear hp; intro w hp
     simp only [List.nil_append, List.cons_append, List.append_nil, List.take_succ_cons, List.take_zero, List.drop_succ_cons, List.drop_zero, List.take_nil, List.drop_nil, Nat.zero_add, Nat.add_zero, Nat.reduceAdd, Int.reduceToNat, Int.toNat_natCast, Nat.reduceMul, Nat.mul_one, Nat.zero_mul] at hp
     refine W_assign rfl rfl ?_
     refine W_nil ?_
     refine N_then_k ?_
     refine K_ret ?_
     refine N_then_ret ?_
     refine N_doneL (.inr rfl) rfl (RVs_cons (RV_agg rfl Tryd.underlying24 rfl sz24 hp (by first | exact List.mem_cons_self | exact .tail _ (.head _) | exact .tail _ (.tail _ (.head _)) | exact .tail _ (.tail _ (.tail _ (.head _))) | exact .tail _ (.tail _ (.tail _ (.tail _ (.head _)))) | exact .tail _ (.tail _ (.tail _ (.tail _ (.tail _ (.head _))))) | exact List.mem_append_right _ (.head _) | exact List.mem_append_right _ (.tail _ (.head _)) | exact List.mem_append_right _ (.tail _ (.tail _ (.head _))) | exact .tail _ (List.mem_append_right _ (.head _)) | exact .tail _ (List.mem_append_right _ (.tail _ (.head _))) | assumption | (repeat (first | exact List.mem_cons_self | apply List.mem_append_right | apply List.mem_cons_of_mem))) (by first | rfl | (simp; done))) (RVs_cons (RV_tmp rfl) (RVs_nil))) rfl ?_
     refine ⟨_, rfl, ?_, hp.nil⟩
     first
       | (rw [← hL, reqL_no (by omega)]; rfl)
       | (rw [← hL, reqL_bad hlt hall (by assumption)]; unfold reqV; simp only []; rw [if_neg (by unfold statN; split <;> decide)]; rfl)
       | (rw [← hL, reqL_ok (fun j hj => hall j (by omega))]; rfl))
  · try (exfalso; first | omega | (simp only [Bool.false_eq_true, reduceCtorEq] at hc1; done) | (refine absurd hc1 ?_; with_reducible assumption) | (refine absurd ?_ hc1; with_reducible assumption))
    all_goals (
     refine K_skip ?_
     refine N_then_k ?_
     refine K_seq ?_
     refine K_seq ?_
     refine K_region ?_
     obtain ⟨m, t, v, rfl⟩ := three_list (show L.length = 3 by omega)
     have hs3 := split_three hL
     have hsl := congrArg List.length hs3
     simp only [List.length_append, List.length_cons, List.length_nil] at hsl
     refine W_load_a (cs := ruleC) Tryd.underlying49 rfl sz49 rfl rfl (fun j u hj => by rw [Nat.zero_add]; exact hp.cell_old0 (hR j u hj)) rfl ?_
     refine W_move rfl rfl ?_
     refine W_nil ?_
     refine N_then_k ?_
     refine K_block ?_
     refine K_loop (σ := Nat) [3, 6, 7, 16, 17, 18, 19, 20, 21, 22, 23, 24, 25, 26, 27, 28, 29, 30, 31, 32, 33, 34, 35, 36, 37, 38, 39, 40, 41, 42, 43]
         (fun k => [(16, .int .i64 k)])
         (fun k w => Hp w0 [] (G9 ++ [(b2, .cells [.string ⟨#[]⟩, .string ⟨#[]⟩, .int .i64 0].toArray 24)]) w ∧ k ≤ 4 ∧ ∀ j, j < k → keepB j ([m, t, v].getD (partN j) []) = true)
         (fun k => 4 - k) (0) ?_ ?_ ?_
     · repeat' (first | exact sub_lst_nil (sub_nil _) | refine sub_lst rfl ?_ | (refine sub_lst_eq rfl ?_ ?_; · first | rfl | (simp; done) | (congr 1; omega)))
     · exact ⟨hp, Nat.zero_le _, fun j hj => absurd hj (by omega)⟩
     · intro k w hJ
       clear hp
       obtain ⟨hp, hle, hall⟩ := hJ
       rcases Nat.lt_or_ge k 4 with hlt | hge
       all_goals (
        refine K_seq ?_
        refine K_region ?_
        first
          | (refine W_lss_t rfl rfl ?_ rfl ?_; (focus (omega)))
          | (refine W_lss_f rfl rfl ?_ rfl ?_; (focus (omega)))
          | (refine W_lss rfl rfl rfl ?_)
        refine W_nil ?_
        refine N_then_k ?_
        refine K_seq ?_
        first
          | refine K_cond_d rfl (fun hc2 => ?_) (fun hc2 => ?_)
          | refine K_cond_n rfl (fun hc2 => ?_) (fun hc2 => ?_)
          | refine K_cond_nb rfl (fun hc2 => ?_) (fun hc2 => ?_)
          | refine K_cond_t rfl (fun hc2 => ?_) (fun hc2 => ?_)
        · try (exfalso; first | omega | (simp only [Bool.false_eq_true, reduceCtorEq] at hc2; done) | (refine absurd hc2 ?_; with_reducible assumption) | (refine absurd ?_ hc2; with_reducible assumption))
          all_goals (
           refine K_skip ?_
           refine N_then_k ?_
           refine K_seq ?_
           refine K_block ?_
           refine K_seq ?_
           refine K_region ?_
           have hpk := partN_lt k
           have hxl : ([m, t, v].getD (partN k) []).length ≤ s.length := by rcases four_cases hlt with rfl | rfl | rfl | rfl <;> simp [partN] <;> omega
           refine W_index_a (v := .agg #[.int .i64 (partN k : Nat), ruleF k, .int .i64 (statN k)]) Tryd.underlying49 rfl rfl (by omega) (by omega) (ruleP hlt) rfl ?_
           refine W_alloc hp zv48 rfl rfl ?_
           clear hp; intro b6 w hp
           refine W_storeF (A := []) (cs := [.int .i64 (partN k : Nat), ruleF k, .int .i64 (statN k)]) hp rfl sz48 rfl rfl rfl rfl ?_ ?_ ?_ rfl ?_
           · decide
           · exact .inl (Nat.zero_le _)
           · intro u hu; simp at hu; rcases hu with rfl | rfl | rfl; rfl; exact ruleF_one k; rfl
           clear hp; intro w hp
           simp only [List.nil_append] at hp
           refine W_nil ?_
           refine N_then_k ?_
           refine K_seq ?_
           have hrd0 := OS.rdm (show OS _ _ _ _ _ _ from r9) (w := w) (fun p hq => hp.own p (by simp [hq]))
           obtain ⟨bb, oo, rfl⟩ := hrd0.some (by simp)
           clear hrd0
           have hxp : ([m, t, v].map strV)[partN k]? = some (strV ([m, t, v].getD (partN k) [])) := by rcases four_cases hlt with rfl | rfl | rfl | rfl <;> rfl
           refine K_quiet hm hp (by kernel_rfl) ?_
           clear hp
           refine Wq_val (fun w hp => R_fieldAddr Tryd.underlying48 rfl sz34 rfl) rfl ?_
           refine Wq_val (fun w hp => R_load_s Tryd.underlying34 rfl rfl (by first | exact hp.cellF (by first | exact List.mem_cons_self | exact .tail _ (.head _) | exact .tail _ (.tail _ (.head _)) | exact .tail _ (.tail _ (.tail _ (.head _))) | exact .tail _ (.tail _ (.tail _ (.tail _ (.head _)))) | exact .tail _ (.tail _ (.tail _ (.tail _ (.tail _ (.head _))))) | exact List.mem_append_right _ (.head _) | exact List.mem_append_right _ (.tail _ (.head _)) | exact List.mem_append_right _ (.tail _ (.tail _ (.head _))) | exact .tail _ (List.mem_append_right _ (.head _)) | exact .tail _ (List.mem_append_right _ (.tail _ (.head _))) | assumption | (repeat (first | exact List.mem_cons_self | apply List.mem_append_right | apply List.mem_cons_of_mem))) rfl | exact hp.cellM (by first | exact List.mem_cons_self | exact .tail _ (.head _) | exact .tail _ (.tail _ (.head _)) | exact .tail _ (.tail _ (.tail _ (.head _))) | exact .tail _ (.tail _ (.tail _ (.tail _ (.head _)))) | exact .tail _ (.tail _ (.tail _ (.tail _ (.tail _ (.head _))))) | exact List.mem_append_right _ (.head _) | exact List.mem_append_right _ (.tail _ (.head _)) | exact List.mem_append_right _ (.tail _ (.tail _ (.head _))) | exact .tail _ (List.mem_append_right _ (.head _)) | exact .tail _ (List.mem_append_right _ (.tail _ (.head _))) | assumption | (repeat (first | exact List.mem_cons_self | apply List.mem_append_right | apply List.mem_cons_of_mem))) rfl | exact hp.cell_old0 ‹_› | (refine hp.cell_old0 ?_; assumption) | (apply hp.cellF (by assumption); rfl))) rfl ?_
           refine Wq_val (fun w hp => R_move rfl) rfl ?_
           refine Wq_val (fun w hp => R_fieldAddr Tryd.underlying48 rfl sz3 rfl) rfl ?_
           refine Wq_val (fun w hp => R_load_s Tryd.underlying3 rfl rfl (by first | exact hp.cellF (by first | exact List.mem_cons_self | exact .tail _ (.head _) | exact .tail _ (.tail _ (.head _)) | exact .tail _ (.tail _ (.tail _ (.head _))) | exact .tail _ (.tail _ (.tail _ (.tail _ (.head _)))) | exact .tail _ (.tail _ (.tail _ (.tail _ (.tail _ (.head _))))) | exact List.mem_append_right _ (.head _) | exact List.mem_append_right _ (.tail _ (.head _)) | exact List.mem_append_right _ (.tail _ (.tail _ (.head _))) | exact .tail _ (List.mem_append_right _ (.head _)) | exact .tail _ (List.mem_append_right _ (.tail _ (.head _))) | assumption | (repeat (first | exact List.mem_cons_self | apply List.mem_append_right | apply List.mem_cons_of_mem))) rfl | exact hp.cellM (by first | exact List.mem_cons_self | exact .tail _ (.head _) | exact .tail _ (.tail _ (.head _)) | exact .tail _ (.tail _ (.tail _ (.head _))) | exact .tail _ (.tail _ (.tail _ (.tail _ (.head _)))) | exact .tail _ (.tail _ (.tail _ (.tail _ (.tail _ (.head _))))) | exact List.mem_append_right _ (.head _) | exact List.mem_append_right _ (.tail _ (.head _)) | exact List.mem_append_right _ (.tail _ (.tail _ (.head _))) | exact .tail _ (List.mem_append_right _ (.head _)) | exact .tail _ (List.mem_append_right _ (.tail _ (.head _))) | assumption | (repeat (first | exact List.mem_cons_self | apply List.mem_append_right | apply List.mem_cons_of_mem))) rfl | exact hp.cell_old0 ‹_› | (refine hp.cell_old0 ?_; assumption) | (apply hp.cellF (by assumption); rfl))) rfl ?_
           refine Wq_val (fun w hp => R_indexAddr_sl Tryd.underlying38 sz9 rfl rfl ?_ ?_) rfl ?_
           (focus (omega))
           (focus (first | omega | (simp; done) | (simp; omega)))
           refine Wq_val (fun w hp => R_load_s Tryd.underlying9 rfl rfl (by exact (show w.cell? ⟨bb, oo + (partN k : Int).toNat * 1, none⟩ = some (strV ([m, t, v].getD (partN k) [])) by rw [show oo + (partN k : Int).toNat * 1 = oo + partN k by omega]; exact (OS.rdm (show OS _ _ _ _ _ _ from r9) (w := w) (fun p hq => hp.own p (by simp [hq]))).cell hxp))) rfl ?_
           refine Wq_vcall rfl rfl (ruleV hlt ([m, t, v].getD (partN k) []) (by omega)) rfl ?_
           first
             | (refine Wq_val (fun w hp => R_not_t rfl) rfl ?_)
             | (refine Wq_val (fun w hp => R_not_f rfl) rfl ?_)
             | (refine Wq_val (fun w hp => R_not rfl) rfl ?_)
           refine Wq_end ?_
           intro w hp
           refine N_then_k ?_
           first
             | refine K_cond_d rfl (fun hc3 => ?_) (fun hc3 => ?_)
             | refine K_cond_n rfl (fun hc3 => ?_) (fun hc3 => ?_)
             | refine K_cond_nb rfl (fun hc3 => ?_) (fun hc3 => ?_)
             | refine K_cond_t rfl (fun hc3 => ?_) (fun hc3 => ?_)
           · try (exfalso; first | omega | (simp only [Bool.false_eq_true, reduceCtorEq] at hc3; done) | (refine absurd hc3 ?_; with_reducible assumption) | (refine absurd ?_ hc3; with_reducible assumption))
             all_goals (
              refine K_seq ?_
              refine K_region ?_
              have hjl := joinB_le [32] [m, t, v] (partN k)
              rw [show joinB [32] [m, t, v] = s by rw [hL]; exact split_join 32 s] at hjl
              refine W_move rfl rfl ?_
              refine W_fieldAddr Tryd.underlying48 rfl sz3 rfl rfl ?_
              refine W_load_s Tryd.underlying3 rfl rfl (by first | exact hp.cellF (by first | exact List.mem_cons_self | exact .tail _ (.head _) | exact .tail _ (.tail _ (.head _)) | exact .tail _ (.tail _ (.tail _ (.head _))) | exact .tail _ (.tail _ (.tail _ (.tail _ (.head _)))) | exact .tail _ (.tail _ (.tail _ (.tail _ (.tail _ (.head _))))) | exact List.mem_append_right _ (.head _) | exact List.mem_append_right _ (.tail _ (.head _)) | exact List.mem_append_right _ (.tail _ (.tail _ (.head _))) | exact .tail _ (List.mem_append_right _ (.head _)) | exact .tail _ (List.mem_append_right _ (.tail _ (.head _))) | assumption | (repeat (first | exact List.mem_cons_self | apply List.mem_append_right | apply List.mem_cons_of_mem))) rfl | exact hp.cellM (by first | exact List.mem_cons_self | exact .tail _ (.head _) | exact .tail _ (.tail _ (.head _)) | exact .tail _ (.tail _ (.tail _ (.head _))) | exact .tail _ (.tail _ (.tail _ (.tail _ (.head _)))) | exact .tail _ (.tail _ (.tail _ (.tail _ (.tail _ (.head _))))) | exact List.mem_append_right _ (.head _) | exact List.mem_append_right _ (.tail _ (.head _)) | exact List.mem_append_right _ (.tail _ (.tail _ (.head _))) | exact .tail _ (List.mem_append_right _ (.head _)) | exact .tail _ (List.mem_append_right _ (.tail _ (.head _))) | assumption | (repeat (first | exact List.mem_cons_self | apply List.mem_append_right | apply List.mem_cons_of_mem))) rfl | exact hp.cell_old0 ‹_› | (refine hp.cell_old0 ?_; assumption) | (apply hp.cellF (by assumption); rfl)) rfl ?_
              have htk : ([m, t, v].take (partN k)).length = partN k := by rw [List.length_take]; simp; omega
              have hrd := OS.rdm (show OS _ _ _ _ _ _ from r9) (w := w) (fun p hq => hp.own p (by simp [hq]))
              refine W_cut_h (m := ([m, t, v].take (partN k)).length) (s := 1) hrd hroom Tryd.underlying38 sz9 rfl rfl (by omega) (by rw [htk]; show partN k ≤ 3; omega) rfl (fun hcut => ?_)
              rw [show ([m, t, v].map strV).take (([m, t, v].take (partN k)).length * 1) = ([m, t, v].take (partN k)).map strV by rw [htk, Nat.mul_one, List.map_take]] at hcut
              refine W_acall hp rfl ((joins_spec w ([m, t, v].take (partN k)) _ _ hcut (by omega) [32] (by decide) (by decide) (by omega) (by omega))) rfl ?_
              clear hp; intro w hp
              refine W_len_s Tryd.underlying9 rfl rfl ?_
              refine W_assign rfl rfl ?_
              refine W_nil ?_
              refine N_then_k ?_
              refine K_seq ?_
              refine K_region ?_
              refine W_build0  ([(.string ⟨#[]⟩), (.string ⟨#[]⟩), (.int .i64 0)]) (by kernel_rfl) rfl ?_
              refine W_fieldAddr Tryd.underlying48 rfl sz46 rfl rfl ?_
              refine W_load_s Tryd.underlying46 rfl rfl (by first | exact hp.cellF (by first | exact List.mem_cons_self | exact .tail _ (.head _) | exact .tail _ (.tail _ (.head _)) | exact .tail _ (.tail _ (.tail _ (.head _))) | exact .tail _ (.tail _ (.tail _ (.tail _ (.head _)))) | exact .tail _ (.tail _ (.tail _ (.tail _ (.tail _ (.head _))))) | exact List.mem_append_right _ (.head _) | exact List.mem_append_right _ (.tail _ (.head _)) | exact List.mem_append_right _ (.tail _ (.tail _ (.head _))) | exact .tail _ (List.mem_append_right _ (.head _)) | exact .tail _ (List.mem_append_right _ (.tail _ (.head _))) | assumption | (repeat (first | exact List.mem_cons_self | apply List.mem_append_right | apply List.mem_cons_of_mem))) rfl | exact hp.cellM (by first | exact List.mem_cons_self | exact .tail _ (.head _) | exact .tail _ (.tail _ (.head _)) | exact .tail _ (.tail _ (.tail _ (.head _))) | exact .tail _ (.tail _ (.tail _ (.tail _ (.head _)))) | exact .tail _ (.tail _ (.tail _ (.tail _ (.tail _ (.head _))))) | exact List.mem_append_right _ (.head _) | exact List.mem_append_right _ (.tail _ (.head _)) | exact List.mem_append_right _ (.tail _ (.tail _ (.head _))) | exact .tail _ (List.mem_append_right _ (.head _)) | exact .tail _ (List.mem_append_right _ (.tail _ (.head _))) | assumption | (repeat (first | exact List.mem_cons_self | apply List.mem_append_right | apply List.mem_cons_of_mem))) rfl | exact hp.cell_old0 ‹_› | (refine hp.cell_old0 ?_; assumption) | (apply hp.cellF (by assumption); rfl)) rfl ?_
              refine W_move rfl rfl ?_
              refine W_fieldAddr Tryd.underlying48 rfl sz3 rfl rfl ?_
              refine W_load_s Tryd.underlying3 rfl rfl (by first | exact hp.cellF (by first | exact List.mem_cons_self | exact .tail _ (.head _) | exact .tail _ (.tail _ (.head _)) | exact .tail _ (.tail _ (.tail _ (.head _))) | exact .tail _ (.tail _ (.tail _ (.tail _ (.head _)))) | exact .tail _ (.tail _ (.tail _ (.tail _ (.tail _ (.head _))))) | exact List.mem_append_right _ (.head _) | exact List.mem_append_right _ (.tail _ (.head _)) | exact List.mem_append_right _ (.tail _ (.tail _ (.head _))) | exact .tail _ (List.mem_append_right _ (.head _)) | exact .tail _ (List.mem_append_right _ (.tail _ (.head _))) | assumption | (repeat (first | exact List.mem_cons_self | apply List.mem_append_right | apply List.mem_cons_of_mem))) rfl | exact hp.cellM (by first | exact List.mem_cons_self | exact .tail _ (.head _) | exact .tail _ (.tail _ (.head _)) | exact .tail _ (.tail _ (.tail _ (.head _))) | exact .tail _ (.tail _ (.tail _ (.tail _ (.head _)))) | exact .tail _ (.tail _ (.tail _ (.tail _ (.tail _ (.head _))))) | exact List.mem_append_right _ (.head _) | exact List.mem_append_right _ (.tail _ (.head _)) | exact List.mem_append_right _ (.tail _ (.tail _ (.head _))) | exact .tail _ (List.mem_append_right _ (.head _)) | exact .tail _ (List.mem_append_right _ (.tail _ (.head _))) | assumption | (repeat (first | exact List.mem_cons_self | apply List.mem_append_right | apply List.mem_cons_of_mem))) rfl | exact hp.cell_old0 ‹_› | (refine hp.cell_old0 ?_; assumption) | (apply hp.cellF (by assumption); rfl)) rfl ?_
              refine W_min (r := ((min (partN k) 1 : Nat) : Int)) rfl rfl (by split <;> omega) rfl ?_
              refine W_add (r := (((joinB [32] ([m, t, v].take (partN k))).length + min (partN k) 1 : Nat) : Int)) rfl rfl (by rw [← Int.natCast_add]; exact wr_i64 (by omega)) rfl ?_
              refine W_pcall hp rfl (fault_new _ _) rfl ?_
              clear hp; intro w hp
              first
                | (refine W_storeF (A := []) hp rfl sz24 rfl rfl rfl rfl ?_ ?_ ?_ rfl ?_; (focus first | exact Nat.le_of_ble_eq_true rfl | omega | (simp; omega)); (focus first | exact .inl (Nat.zero_le _) | omega); (focus first | (intro v hv; simp at hv; subst hv; rfl) | (simp [Value.oneCell']; done) | (simp [Value.oneCell', strV]; done) | (simp [Value.cells, Value.oneCell', strV]; done)))
                | (refine W_storeF (A := [_]) hp rfl sz24 rfl rfl rfl rfl ?_ ?_ ?_ rfl ?_; (focus first | exact Nat.le_of_ble_eq_true rfl | omega | (simp; omega)); (focus first | exact .inl (Nat.zero_le _) | omega); (focus first | (intro v hv; simp at hv; subst hv; rfl) | (simp [Value.oneCell']; done) | (simp [Value.oneCell', strV]; done) | (simp [Value.cells, Value.oneCell', strV]; done)))
                | (refine W_storeF (A := [_, _]) hp rfl sz24 rfl rfl rfl rfl ?_ ?_ ?_ rfl ?_; (focus first | exact Nat.le_of_ble_eq_true rfl | omega | (simp; omega)); (focus first | exact .inl (Nat.zero_le _) | omega); (focus first | (intro v hv; simp at hv; subst hv; rfl) | (simp [Value.oneCell']; done) | (simp [Value.oneCell', strV]; done) | (simp [Value.cells, Value.oneCell', strV]; done)))
                | (refine W_storeF (A := [_, _, _]) hp rfl sz24 rfl rfl rfl rfl ?_ ?_ ?_ rfl ?_; (focus first | exact Nat.le_of_ble_eq_true rfl | omega | (simp; omega)); (focus first | exact .inl (Nat.zero_le _) | omega); (focus first | (intro v hv; simp at hv; subst hv; rfl) | (simp [Value.oneCell']; done) | (simp [Value.oneCell', strV]; done) | (simp [Value.cells, Value.oneCell', strV]; done)))
                | (refine W_storeF (A := [_, _, _, _]) hp rfl sz24 rfl rfl rfl rfl ?_ ?_ ?_ rfl ?_; (focus first | exact Nat.le_of_ble_eq_true rfl | omega | (simp; omega)); (focus first | exact .inl (Nat.zero_le _) | omega); (focus first | (intro v hv; simp at hv; subst hv; rfl) | (simp [Value.oneCell']; done) | (simp [Value.oneCell', strV]; done) | (simp [Value.cells, Value.oneCell', strV]; done)))
                | (refine W_storeF (A := [_, _, _, _, _]) hp rfl sz24 rfl rfl rfl rfl ?_ ?_ ?_ rfl ?_; (focus first | exact Nat.le_of_ble_eq_true rfl | omega | (simp; omega)); (focus first | exact .inl (Nat.zero_le _) | omega); (focus first | (intro v hv; simp at hv; subst hv; rfl) | (simp [Value.oneCell']; done) | (simp [Value.oneCell', strV]; done) | (simp [Value.cells, Value.oneCell', strV]; done)))
                | (refine W_storeM (A := []) hp rfl sz24 rfl rfl rfl rfl ?_ ?_ ?_ rfl ?_; (focus first | exact Nat.le_of_ble_eq_true rfl | omega | (simp; omega)); (focus first | exact .inl (Nat.zero_le _) | omega); (focus first | (intro v hv; simp at hv; subst hv; rfl) | (simp [Value.oneCell']; done) | (simp [Value.oneCell', strV]; done) | (simp [Value.cells, Value.oneCell', strV]; done)))
                | (refine W_storeM (A := [_]) hp rfl sz24 rfl rfl rfl rfl ?_ ?_ ?_ rfl ?_; (focus first | exact Nat.le_of_ble_eq_true rfl | omega | (simp; omega)); (focus first | exact .inl (Nat.zero_le _) | omega); (focus first | (intro v hv; simp at hv; subst hv; rfl) | (simp [Value.oneCell']; done) | (simp [Value.oneCell', strV]; done) | (simp [Value.cells, Value.oneCell', strV]; done)))
                | (refine W_storeM (A := [_, _]) hp rfl sz24 rfl rfl rfl rfl ?_ ?_ ?_ rfl ?_; (focus first | exact Nat.le_of_ble_eq_true rfl | omega | (simp; omega)); (focus first | exact .inl (Nat.zero_le _) | omega); (focus first | (intro v hv; simp at hv; subst hv; rfl) | (simp [Value.oneCell']; done) | (simp [Value.oneCell', strV]; done) | (simp [Value.cells, Value.oneCell', strV]; done)))
                | (refine W_storeP hp sz24 rfl rfl rfl rfl (by repeat (first | exact Pick.here | apply Pick.cons | apply Pick.app)) ?_ ?_ ?_ rfl ?_; (focus first | exact Nat.le_of_ble_eq_true rfl | omega | (simp; omega)); (focus first | exact .inl (Nat.zero_le _) | omega); (focus first | (intro v hv; simp at hv; subst hv; rfl) | (simp [Value.oneCell']; done) | (simp [Value.oneCell', strV]; done) | (simp [Value.cells, Value.oneCell', strV]; done)))
              clear hp; intro w hp
              simp only [List.nil_append, List.cons_append, List.append_nil, List.take_succ_cons, List.take_zero, List.drop_succ_cons, List.drop_zero, List.take_nil, List.drop_nil, Nat.zero_add, Nat.add_zero, Nat.reduceAdd, Int.reduceToNat, Int.toNat_natCast, Nat.reduceMul, Nat.mul_one, Nat.zero_mul] at hp
              refine W_assign rfl rfl ?_
              refine W_nil ?_
              refine N_then_k ?_
              refine K_ret ?_
              refine N_block_ret ?_
              refine N_then_ret ?_
              refine N_then_ret ?_
              refine N_block_ret ?_
              refine N_then_ret ?_
              refine N_doneL (.inr rfl) rfl (RVs_cons (RV_agg rfl Tryd.underlying24 rfl sz24 hp (by first | exact List.mem_cons_self | exact .tail _ (.head _) | exact .tail _ (.tail _ (.head _)) | exact .tail _ (.tail _ (.tail _ (.head _))) | exact .tail _ (.tail _ (.tail _ (.tail _ (.head _)))) | exact .tail _ (.tail _ (.tail _ (.tail _ (.tail _ (.head _))))) | exact List.mem_append_right _ (.head _) | exact List.mem_append_right _ (.tail _ (.head _)) | exact List.mem_append_right _ (.tail _ (.tail _ (.head _))) | exact .tail _ (List.mem_append_right _ (.head _)) | exact .tail _ (List.mem_append_right _ (.tail _ (.head _))) | assumption | (repeat (first | exact List.mem_cons_self | apply List.mem_append_right | apply List.mem_cons_of_mem))) (by first | rfl | (simp; done))) (RVs_cons (RV_tmp rfl) (RVs_nil))) rfl ?_
              refine ⟨_, rfl, ?_, hp.nil⟩
              first
                | (rw [← hL, reqL_no (by omega)]; rfl)
                | (rw [← hL, reqL_bad hlt hall (by assumption)]; unfold reqV; simp only []; rw [if_neg (by unfold statN; split <;> decide)]; rfl)
                | (rw [← hL, reqL_ok (fun j hj => hall j (by omega))]; rfl))
           · try (exfalso; first | omega | (simp only [Bool.false_eq_true, reduceCtorEq] at hc3; done) | (refine absurd hc3 ?_; with_reducible assumption) | (refine absurd ?_ hc3; with_reducible assumption))
             all_goals (
              refine K_skip ?_
              refine N_block_normal ?_
              refine N_then_k ?_
              refine K_region ?_
              first
                | (refine W_add rfl rfl (wr_i64 ?_) rfl ?_; (focus (omega)))
                | (refine W_add rfl rfl rfl rfl ?_)
              refine W_move rfl rfl ?_
              refine W_nil ?_
              refine N_again (k + 1) (sub_end ?_ ?_) ?_ ?_
              · repeat' (first | exact sub_lst_nil (sub_nil _) | refine sub_lst rfl ?_ | (refine sub_lst_eq rfl ?_ ?_; · first | rfl | (simp; done) | (congr 1; omega)))
              · repeat' (first | exact sub_refl _ | exact sub_strip _ _ | refine sub_s_cons rfl ?_ | refine sub_s_lst rfl ?_ | refine sub_s_strip rfl ?_)
              · exact ⟨by simpa using hp.drop (List.sublist_cons_self _ _), hlt, fun j hj => by rcases (by omega : j < k ∨ j = k) with h | h; exact hall j h; rw [h]; assumption⟩
              · omega))
        · try (exfalso; first | omega | (simp only [Bool.false_eq_true, reduceCtorEq] at hc2; done) | (refine absurd hc2 ?_; with_reducible assumption) | (refine absurd ?_ hc2; with_reducible assumption))
          all_goals (
           refine K_exit ?_
           refine N_then_exit ?_
           refine N_then_exit ?_
           refine N_block_exit ?_
           refine N_then_k ?_
           refine K_seq ?_
           have hrd0 := OS.rdm (show OS _ _ _ _ _ _ from r9) (w := w) (fun p hq => hp.own p (by simp [hq]))
           obtain ⟨bb, oo, rfl⟩ := hrd0.some (by simp)
           clear hrd0
           obtain ⟨hv8, hv48, hv57⟩ := ver_len (show verB v = true from hall 2 (by omega))
           refine K_quiet_tail (A := [_, _, _, _, _, _, _, _, _, _, _, _, _, _]) (C := Hp _ _ _) hm hp hp.drew (by kernel_rfl) ?_
           clear hp
           refine Wq_val (fun w hp => R_move rfl) rfl ?_
           refine Wq_val (fun w hp => R_indexAddr_sl Tryd.underlying38 sz9 rfl rfl ?_ ?_) rfl ?_
           (focus (omega))
           (focus (first | omega | (simp; done) | (simp; omega)))
           refine Wq_val (fun w hp => R_load_s Tryd.underlying9 rfl rfl (by exact (show w.cell? ⟨bb, oo + (0 : Int).toNat * 1, none⟩ = some (strV m) by exact (OS.rdm (show OS _ _ _ _ _ _ from r9) (w := w) (fun p hq => hp.own p (by simp [hq]))).cell (m := 0) rfl))) rfl ?_
           refine Wq_val (fun w hp => R_move rfl) rfl ?_
           refine Wq_val (fun w hp => R_indexAddr_sl Tryd.underlying38 sz9 rfl rfl ?_ ?_) rfl ?_
           (focus (omega))
           (focus (first | omega | (simp; done) | (simp; omega)))
           refine Wq_val (fun w hp => R_load_s Tryd.underlying9 rfl rfl (by exact (show w.cell? ⟨bb, oo + (1 : Int).toNat * 1, none⟩ = some (strV t) by exact (OS.rdm (show OS _ _ _ _ _ _ from r9) (w := w) (fun p hq => hp.own p (by simp [hq]))).cell (m := 1) rfl))) rfl ?_
           refine Wq_val (fun w hp => R_move rfl) rfl ?_
           refine Wq_val (fun w hp => R_move rfl) rfl ?_
           refine Wq_val (fun w hp => R_len_s Tryd.underlying9 rfl) rfl ?_
           first
             | (refine Wq_val (fun w hp => R_sub rfl rfl (wr_i64 ?_)) rfl ?_; (focus (omega)))
             | (refine Wq_val (fun w hp => R_sub rfl rfl rfl) rfl ?_)
           refine Wq_val (fun w hp => R_index_s (b := v.getD 7 0) Tryd.underlying9 rfl rfl (by omega) (by rw [show ((s.length : Int) - 1).toNat = s.length - 1 by omega]; exact last_at hs3 hv8)) rfl ?_
           refine Wq_val (fun w hp => R_sub rfl rfl (wr_u8 (by omega))) rfl ?_
           first
             | (refine Wq_val (fun w hp => R_conv_i Tryd.underlying5 Tryd.underlying3 rfl (wr_i64 ?_)) rfl ?_; (focus (first | omega | (have := u8_lt ‹_›; omega))))
             | (refine Wq_val (fun w hp => R_conv_i Tryd.underlying5 Tryd.underlying3 rfl rfl) rfl ?_)
           refine Wq_val (fun w hp => R_build3 rfl rfl rfl  (fun v0 v1 v2 => [v0, v1, v2]) (by kernel_rfl)) rfl ?_
           refine Wq_tail ?_
           intro w hp
           first
             | (refine W_storeF (A := []) hp rfl sz24 rfl rfl rfl rfl ?_ ?_ ?_ rfl ?_; (focus first | exact Nat.le_of_ble_eq_true rfl | omega | (simp; omega)); (focus first | exact .inl (Nat.zero_le _) | omega); (focus first | (intro v hv; simp at hv; subst hv; rfl) | (simp [Value.oneCell']; done) | (simp [Value.oneCell', strV]; done) | (simp [Value.cells, Value.oneCell', strV]; done)))
             | (refine W_storeF (A := [_]) hp rfl sz24 rfl rfl rfl rfl ?_ ?_ ?_ rfl ?_; (focus first | exact Nat.le_of_ble_eq_true rfl | omega | (simp; omega)); (focus first | exact .inl (Nat.zero_le _) | omega); (focus first | (intro v hv; simp at hv; subst hv; rfl) | (simp [Value.oneCell']; done) | (simp [Value.oneCell', strV]; done) | (simp [Value.cells, Value.oneCell', strV]; done)))
             | (refine W_storeF (A := [_, _]) hp rfl sz24 rfl rfl rfl rfl ?_ ?_ ?_ rfl ?_; (focus first | exact Nat.le_of_ble_eq_true rfl | omega | (simp; omega)); (focus first | exact .inl (Nat.zero_le _) | omega); (focus first | (intro v hv; simp at hv; subst hv; rfl) | (simp [Value.oneCell']; done) | (simp [Value.oneCell', strV]; done) | (simp [Value.cells, Value.oneCell', strV]; done)))
             | (refine W_storeF (A := [_, _, _]) hp rfl sz24 rfl rfl rfl rfl ?_ ?_ ?_ rfl ?_; (focus first | exact Nat.le_of_ble_eq_true rfl | omega | (simp; omega)); (focus first | exact .inl (Nat.zero_le _) | omega); (focus first | (intro v hv; simp at hv; subst hv; rfl) | (simp [Value.oneCell']; done) | (simp [Value.oneCell', strV]; done) | (simp [Value.cells, Value.oneCell', strV]; done)))
             | (refine W_storeF (A := [_, _, _, _]) hp rfl sz24 rfl rfl rfl rfl ?_ ?_ ?_ rfl ?_; (focus first | exact Nat.le_of_ble_eq_true rfl | omega | (simp; omega)); (focus first | exact .inl (Nat.zero_le _) | omega); (focus first | (intro v hv; simp at hv; subst hv; rfl) | (simp [Value.oneCell']; done) | (simp [Value.oneCell', strV]; done) | (simp [Value.cells, Value.oneCell', strV]; done)))
             | (refine W_storeF (A := [_, _, _, _, _]) hp rfl sz24 rfl rfl rfl rfl ?_ ?_ ?_ rfl ?_; (focus first | exact Nat.le_of_ble_eq_true rfl | omega | (simp; omega)); (focus first | exact .inl (Nat.zero_le _) | omega); (focus first | (intro v hv; simp at hv; subst hv; rfl) | (simp [Value.oneCell']; done) | (simp [Value.oneCell', strV]; done) | (simp [Value.cells, Value.oneCell', strV]; done)))
             | (refine W_storeM (A := []) hp rfl sz24 rfl rfl rfl rfl ?_ ?_ ?_ rfl ?_; (focus first | exact Nat.le_of_ble_eq_true rfl | omega | (simp; omega)); (focus first | exact .inl (Nat.zero_le _) | omega); (focus first | (intro v hv; simp at hv; subst hv; rfl) | (simp [Value.oneCell']; done) | (simp [Value.oneCell', strV]; done) | (simp [Value.cells, Value.oneCell', strV]; done)))
             | (refine W_storeM (A := [_]) hp rfl sz24 rfl rfl rfl rfl ?_ ?_ ?_ rfl ?_; (focus first | exact Nat.le_of_ble_eq_true rfl | omega | (simp; omega)); (focus first | exact .inl (Nat.zero_le _) | omega); (focus first | (intro v hv; simp at hv; subst hv; rfl) | (simp [Value.oneCell']; done) | (simp [Value.oneCell', strV]; done) | (simp [Value.cells, Value.oneCell', strV]; done)))
             | (refine W_storeM (A := [_, _]) hp rfl sz24 rfl rfl rfl rfl ?_ ?_ ?_ rfl ?_; (focus first | exact Nat.le_of_ble_eq_true rfl | omega | (simp; omega)); (focus first | exact .inl (Nat.zero_le _) | omega); (focus first | (intro v hv; simp at hv; subst hv; rfl) | (simp [Value.oneCell']; done) | (simp [Value.oneCell', strV]; done) | (simp [Value.cells, Value.oneCell', strV]; done)))
             | (refine W_storeP hp sz24 rfl rfl rfl rfl (by repeat (first | exact Pick.here | apply Pick.cons | apply Pick.app)) ?_ ?_ ?_ rfl ?_; (focus first | exact Nat.le_of_ble_eq_true rfl | omega | (simp; omega)); (focus first | exact .inl (Nat.zero_le _) | omega); (focus first | (intro v hv; simp at hv; subst hv; rfl) | (simp [Value.oneCell']; done) | (simp [Value.oneCell', strV]; done) | (simp [Value.cells, Value.oneCell', strV]; done)))
           clear hp; intro w hp
           simp only [List.nil_append, List.cons_append, List.append_nil, List.take_succ_cons, List.take_zero, List.drop_succ_cons, List.drop_zero, List.take_nil, List.drop_nil, Nat.zero_add, Nat.add_zero, Nat.reduceAdd, Int.reduceToNat, Int.toNat_natCast, Nat.reduceMul, Nat.mul_one, Nat.zero_mul] at hp
           refine W_assign rfl rfl ?_
           refine W_nil ?_
           refine N_then_k ?_
           refine K_ret ?_
           refine N_doneL (.inr rfl) rfl (RVs_cons (RV_agg rfl Tryd.underlying24 rfl sz24 hp (by first | exact List.mem_cons_self | exact .tail _ (.head _) | exact .tail _ (.tail _ (.head _)) | exact .tail _ (.tail _ (.tail _ (.head _))) | exact .tail _ (.tail _ (.tail _ (.tail _ (.head _)))) | exact .tail _ (.tail _ (.tail _ (.tail _ (.tail _ (.head _))))) | exact List.mem_append_right _ (.head _) | exact List.mem_append_right _ (.tail _ (.head _)) | exact List.mem_append_right _ (.tail _ (.tail _ (.head _))) | exact .tail _ (List.mem_append_right _ (.head _)) | exact .tail _ (List.mem_append_right _ (.tail _ (.head _))) | assumption | (repeat (first | exact List.mem_cons_self | apply List.mem_append_right | apply List.mem_cons_of_mem))) (by first | rfl | (simp; done))) (RVs_cons (RV_tmp rfl) (RVs_nil))) rfl ?_
           refine ⟨_, rfl, ?_, hp.nil⟩
           first
             | (rw [← hL, reqL_no (by omega)]; rfl)
             | (rw [← hL, reqL_bad hlt hall (by assumption)]; unfold reqV; simp only []; rw [if_neg (by unfold statN; split <;> decide)]; rfl)
             | (rw [← hL, reqL_ok (fun j hj => hall j (by omega))]; rfl))))

end Go.Proofs.YtcanebnegfnhdaaDoor
