/-
  Package field, walked.
-/
import Derived.Test.YtiimcopdkjbijaaDoorFld
namespace Go.Proofs.YtiimcopdkjbijaaDoor
open Go.Sx Go.RowKit
set_option linter.unusedVariables false
set_option linter.unusedSimpArgs false
set_option maxRecDepth 100000

set_option maxHeartbeats 600000 in
theorem fparse_spec (s : List UInt8) (hl : s.length ≤ 100000000) : PureF Tryd.prog 8 [.string ⟨s.toArray⟩] (parV s) := by
  rcases idx_two s 58 with ⟨hi, hno⟩ | ⟨i, hi, hil, hic, hin⟩
  all_goals first | (cases ht : isToken (s.take i)) | skip
  all_goals try have htl : (s.take i).length ≤ s.length := by simp; omega
  all_goals try have hdl : (s.drop (i + 1)).length = s.length - (i + 1) := List.length_drop
  all_goals (
   refine PureF.intro go8 Tryd.func8 rfl rfl fun w0 hp => ?_
   refine K_seq ?_
   refine K_region ?_
   refine W_alloc hp zv24 rfl rfl ?_
   clear hp; intro b2 w hp
   refine W_assign rfl rfl ?_
   refine W_nil ?_
   refine N_then_k ?_
   refine K_seq ?_
   refine K_region ?_
   refine W_move rfl rfl ?_
   first
     | (refine W_pcall hp rfl (cut_yes s 58 (by omega) hi hil) rfl ?_)
     | (refine W_pcall hp rfl (cut_no s 58 (by omega) hi) rfl ?_)
   clear hp; intro w hp
   refine W_move rfl rfl ?_
   refine W_extract rfl rfl rfl ?_
   refine W_extract rfl rfl rfl ?_
   refine W_extract rfl rfl rfl ?_
   refine W_assign rfl rfl ?_
   refine W_assign rfl rfl ?_
   refine W_assign rfl rfl ?_
   refine W_nil ?_
   refine N_then_k ?_
   refine K_seq ?_
   refine K_seq ?_
   refine K_region ?_
   refine W_move rfl rfl ?_
   first
     | (refine W_not_t rfl rfl ?_)
     | (refine W_not_f rfl rfl ?_)
     | (refine W_not rfl rfl ?_)
   refine W_move rfl rfl ?_
   first
     | refine W_guard_lit_t rfl ?_
     | refine W_guard_lit_f rfl ?_
     | refine W_guard_lit_u rfl ?_
     | refine W_guard_split_d rfl rfl rfl (fun hg1 => ?_) (fun hg1 => ?_)
     | refine W_guard_split_n rfl rfl rfl (fun hg1 => ?_) (fun hg1 => ?_)
     | refine W_guard_split_nb rfl rfl rfl (fun hg1 => ?_) (fun hg1 => ?_)
     | refine W_guard_split rfl rfl rfl (fun hg1 => ?_) (fun hg1 => ?_)
   all_goals try (exfalso; first | omega | (simp only [Bool.false_eq_true, reduceCtorEq] at hg1; done) | (refine absurd hg1 ?_; with_reducible assumption) | (refine absurd ?_ hg1; with_reducible assumption))
   all_goals (
    first
      | (iterate 3 refine W_guard_no rfl rfl rfl ?_)
      | (iterate 3 refine W_guard_un rfl rfl ?_)
      | (refine W_guard_yes rfl ?_
         refine W_move rfl rfl ?_
         refine W_guard_yes rfl ?_
         refine W_pcall hp rfl ((isToken_spec (s.take i) (by omega)).eq (congrArg Value.bool ht)) rfl ?_
         clear hp; intro w hp
         refine W_guard_yes rfl ?_
         first
           | (refine W_not_t rfl rfl ?_)
           | (refine W_not_f rfl rfl ?_)
           | (refine W_not rfl rfl ?_))
    first
      | (refine W_pick_t rfl rfl rfl ?_)
      | (refine W_pick_f rfl rfl rfl ?_)
      | (refine W_pick_b rfl rfl rfl rfl ?_)
    refine W_nil ?_
    refine N_then_k ?_
    first
      | refine K_cond_d rfl (fun hc2 => ?_) (fun hc2 => ?_)
      | refine K_cond_n rfl (fun hc2 => ?_) (fun hc2 => ?_)
      | refine K_cond_nb rfl (fun hc2 => ?_) (fun hc2 => ?_)
      | refine K_cond_t rfl (fun hc2 => ?_) (fun hc2 => ?_)
    · try (exfalso; first | omega | (simp only [Bool.false_eq_true, reduceCtorEq] at hc2; done) | (refine absurd hc2 ?_; with_reducible assumption) | (refine absurd ?_ hc2; with_reducible assumption))
      all_goals (
       refine K_seq ?_
       refine K_region ?_
       refine W_build0  ([(.string ⟨#[]⟩), (.string ⟨#[]⟩)]) (by kernel_rfl) rfl ?_
       refine W_pcall hp rfl (fault_new 400 0) rfl ?_
       clear hp; intro w hp
       first
         | (refine W_storeF (A := []) hp rfl sz24 rfl rfl rfl rfl ?_ ?_ ?_ rfl ?_; (focus first | exact Nat.le_of_ble_eq_true rfl | omega | (simp; omega)); (focus first | exact .inl (Nat.zero_le _) | omega); (focus first | (intro v hv; simp at hv; subst hv; rfl) | (simp [Value.oneCell']; done) | (simp [Value.oneCell', strV]; done)))
         | (refine W_storeF (A := [_]) hp rfl sz24 rfl rfl rfl rfl ?_ ?_ ?_ rfl ?_; (focus first | exact Nat.le_of_ble_eq_true rfl | omega | (simp; omega)); (focus first | exact .inl (Nat.zero_le _) | omega); (focus first | (intro v hv; simp at hv; subst hv; rfl) | (simp [Value.oneCell']; done) | (simp [Value.oneCell', strV]; done)))
         | (refine W_storeF (A := [_, _]) hp rfl sz24 rfl rfl rfl rfl ?_ ?_ ?_ rfl ?_; (focus first | exact Nat.le_of_ble_eq_true rfl | omega | (simp; omega)); (focus first | exact .inl (Nat.zero_le _) | omega); (focus first | (intro v hv; simp at hv; subst hv; rfl) | (simp [Value.oneCell']; done) | (simp [Value.oneCell', strV]; done)))
         | (refine W_storeF (A := [_, _, _]) hp rfl sz24 rfl rfl rfl rfl ?_ ?_ ?_ rfl ?_; (focus first | exact Nat.le_of_ble_eq_true rfl | omega | (simp; omega)); (focus first | exact .inl (Nat.zero_le _) | omega); (focus first | (intro v hv; simp at hv; subst hv; rfl) | (simp [Value.oneCell']; done) | (simp [Value.oneCell', strV]; done)))
         | (refine W_storeF (A := [_, _, _, _]) hp rfl sz24 rfl rfl rfl rfl ?_ ?_ ?_ rfl ?_; (focus first | exact Nat.le_of_ble_eq_true rfl | omega | (simp; omega)); (focus first | exact .inl (Nat.zero_le _) | omega); (focus first | (intro v hv; simp at hv; subst hv; rfl) | (simp [Value.oneCell']; done) | (simp [Value.oneCell', strV]; done)))
         | (refine W_storeF (A := [_, _, _, _, _]) hp rfl sz24 rfl rfl rfl rfl ?_ ?_ ?_ rfl ?_; (focus first | exact Nat.le_of_ble_eq_true rfl | omega | (simp; omega)); (focus first | exact .inl (Nat.zero_le _) | omega); (focus first | (intro v hv; simp at hv; subst hv; rfl) | (simp [Value.oneCell']; done) | (simp [Value.oneCell', strV]; done)))
         | (refine W_storeM (A := []) hp rfl sz24 rfl rfl rfl rfl ?_ ?_ ?_ rfl ?_; (focus first | exact Nat.le_of_ble_eq_true rfl | omega | (simp; omega)); (focus first | exact .inl (Nat.zero_le _) | omega); (focus first | (intro v hv; simp at hv; subst hv; rfl) | (simp [Value.oneCell']; done) | (simp [Value.oneCell', strV]; done)))
         | (refine W_storeM (A := [_]) hp rfl sz24 rfl rfl rfl rfl ?_ ?_ ?_ rfl ?_; (focus first | exact Nat.le_of_ble_eq_true rfl | omega | (simp; omega)); (focus first | exact .inl (Nat.zero_le _) | omega); (focus first | (intro v hv; simp at hv; subst hv; rfl) | (simp [Value.oneCell']; done) | (simp [Value.oneCell', strV]; done)))
         | (refine W_storeM (A := [_, _]) hp rfl sz24 rfl rfl rfl rfl ?_ ?_ ?_ rfl ?_; (focus first | exact Nat.le_of_ble_eq_true rfl | omega | (simp; omega)); (focus first | exact .inl (Nat.zero_le _) | omega); (focus first | (intro v hv; simp at hv; subst hv; rfl) | (simp [Value.oneCell']; done) | (simp [Value.oneCell', strV]; done)))
       clear hp; intro w hp
       simp only [List.nil_append, List.cons_append, List.append_nil, List.take_succ_cons, List.take_zero, List.drop_succ_cons, List.drop_zero, List.take_nil, List.drop_nil, Nat.zero_add, Nat.add_zero, Nat.reduceAdd, Int.reduceToNat, Int.toNat_natCast, Nat.reduceMul, Nat.mul_one, Nat.zero_mul] at hp
       refine W_assign rfl rfl ?_
       refine W_nil ?_
       refine N_then_k ?_
       refine K_ret ?_
       refine N_then_ret ?_
       refine N_doneL (.inr rfl) rfl (RVs_cons (RV_agg rfl Tryd.underlying24 rfl sz24 hp (by first | exact List.mem_cons_self | exact .tail _ (.head _) | exact .tail _ (.tail _ (.head _)) | exact .tail _ (.tail _ (.tail _ (.head _))) | exact .tail _ (.tail _ (.tail _ (.tail _ (.head _)))) | exact .tail _ (.tail _ (.tail _ (.tail _ (.tail _ (.head _))))) | exact List.mem_append_right _ (.head _) | exact List.mem_append_right _ (.tail _ (.head _)) | exact List.mem_append_right _ (.tail _ (.tail _ (.head _))) | exact .tail _ (List.mem_append_right _ (.head _)) | exact .tail _ (List.mem_append_right _ (.tail _ (.head _)))) (by first | rfl | (simp; done))) (RVs_cons (RV_tmp rfl) (RVs_nil))) rfl ?_
       refine ⟨_, rfl, ?_, hp.nil⟩
       first
         | (rw [parV_bad (pf_no hi) (by decide)]; rfl)
         | (rw [parV_bad (pf_tok hi ht) (by decide)]; rfl)
         | (rw [parV_bad (pf_bad hi ht hc hn (by assumption)) (by omega), hti]; rfl)
         | (rw [parV_ok (pf_ok hi ht (by rw [List.take_of_length_le hge] at hn; exact hn))]; rfl))
    · try (exfalso; first | omega | (simp only [Bool.false_eq_true, reduceCtorEq] at hc2; done) | (refine absurd hc2 ?_; with_reducible assumption) | (refine absurd ?_ hc2; with_reducible assumption))
      all_goals (
       refine K_skip ?_
       refine N_then_k ?_
       refine K_seq ?_
       refine K_seq ?_
       refine K_region ?_
       refine W_move rfl rfl ?_
       refine W_len_s Tryd.underlying9 rfl rfl ?_
       refine W_move rfl rfl ?_
       refine W_nil ?_
       refine N_then_k ?_
       refine K_block ?_
       refine K_loop (σ := Nat) [3, 7, 25, 26, 27, 28, 29, 30, 31, 32, 33, 34, 35, 36, 37, 38, 39, 40]
           (fun k => [(25, .int .i64 k)])
           (fun k w => Hp w0 [] [(b2, .cells [.string ⟨#[]⟩, .string ⟨#[]⟩].toArray 24)] w ∧ k ≤ (s.drop (i + 1)).length ∧ ∀ x ∈ (s.drop (i + 1)).take k, FieldP x.toNat)
           (fun k => (s.drop (i + 1)).length - k) (0) ?_ ?_ ?_
       · repeat' (first | exact sub_lst_nil (sub_nil _) | refine sub_lst rfl ?_ | (refine sub_lst_eq rfl ?_ ?_; · first | rfl | (simp; done) | (congr 1; omega)))
       · exact ⟨hp, Nat.zero_le _, by simp⟩
       · intro k w hJ
         clear hp
         obtain ⟨hp, hle, hn⟩ := hJ
         rcases Nat.lt_or_ge k (s.drop (i + 1)).length with hlt | hge
         all_goals (
          refine K_seq ?_
          refine K_region ?_
          first
            | (refine W_lss_t rfl rfl ?_ rfl ?_; (focus (omega)))
            | (refine W_lss_f rfl rfl ?_ rfl ?_; (focus (omega)))
            | (refine W_lss rfl rfl rfl ?_)
          refine W_nil ?_
          refine N_then_k ?_
          refine K_seq ?_
          first
            | refine K_cond_d rfl (fun hc3 => ?_) (fun hc3 => ?_)
            | refine K_cond_n rfl (fun hc3 => ?_) (fun hc3 => ?_)
            | refine K_cond_nb rfl (fun hc3 => ?_) (fun hc3 => ?_)
            | refine K_cond_t rfl (fun hc3 => ?_) (fun hc3 => ?_)
          · try (exfalso; first | omega | (simp only [Bool.false_eq_true, reduceCtorEq] at hc3; done) | (refine absurd hc3 ?_; with_reducible assumption) | (refine absurd ?_ hc3; with_reducible assumption))
            all_goals (
             refine K_skip ?_
             refine N_then_k ?_
             refine K_seq ?_
             refine K_block ?_
             refine K_seq ?_
             refine K_region ?_
             refine W_move rfl rfl ?_
             refine W_assign rfl rfl ?_
             refine W_nil ?_
             refine N_then_k ?_
             refine K_seq ?_
             refine K_region ?_
             obtain ⟨c, hc⟩ : ∃ c, (s.drop (i + 1))[k]? = some c := ⟨_, List.getElem?_eq_getElem hlt⟩
             refine W_move rfl rfl ?_
             refine W_move rfl rfl ?_
             refine W_index_s Tryd.underlying9 rfl rfl ?_ (by first | with_reducible assumption | assumption | exact rfl | exact idx_getD (by first | omega | (simp; omega))) rfl ?_
             (focus (omega))
             refine W_pcall hp rfl (field_spec c) rfl ?_
             clear hp; intro w hp
             first
               | (refine W_not_t rfl rfl ?_)
               | (refine W_not_f rfl rfl ?_)
               | (refine W_not rfl rfl ?_)
             refine W_nil ?_
             refine N_then_k ?_
             first
               | refine K_cond_d rfl (fun hc4 => ?_) (fun hc4 => ?_)
               | refine K_cond_n rfl (fun hc4 => ?_) (fun hc4 => ?_)
               | refine K_cond_nb rfl (fun hc4 => ?_) (fun hc4 => ?_)
               | refine K_cond_t rfl (fun hc4 => ?_) (fun hc4 => ?_)
             · try (exfalso; first | omega | (simp only [Bool.false_eq_true, reduceCtorEq] at hc4; done) | (refine absurd hc4 ?_; with_reducible assumption) | (refine absurd ?_ hc4; with_reducible assumption))
               all_goals (
                refine K_seq ?_
                refine K_region ?_
                refine W_build0  ([(.string ⟨#[]⟩), (.string ⟨#[]⟩)]) (by kernel_rfl) rfl ?_
                refine W_move rfl rfl ?_
                have hti : (s.take i).length = i := by simp; omega
                refine W_len_s Tryd.underlying9 rfl rfl ?_
                first
                  | (refine W_add rfl rfl (wr_i64 ?_) rfl ?_; (focus (omega)))
                  | (refine W_add rfl rfl rfl rfl ?_)
                refine W_move rfl rfl ?_
                first
                  | (refine W_add rfl rfl (wr_i64 ?_) rfl ?_; (focus (omega)))
                  | (refine W_add rfl rfl rfl rfl ?_)
                refine W_pcall hp rfl (fault_new 400 _) rfl ?_
                clear hp; intro w hp
                first
                  | (refine W_storeF (A := []) hp rfl sz24 rfl rfl rfl rfl ?_ ?_ ?_ rfl ?_; (focus first | exact Nat.le_of_ble_eq_true rfl | omega | (simp; omega)); (focus first | exact .inl (Nat.zero_le _) | omega); (focus first | (intro v hv; simp at hv; subst hv; rfl) | (simp [Value.oneCell']; done) | (simp [Value.oneCell', strV]; done)))
                  | (refine W_storeF (A := [_]) hp rfl sz24 rfl rfl rfl rfl ?_ ?_ ?_ rfl ?_; (focus first | exact Nat.le_of_ble_eq_true rfl | omega | (simp; omega)); (focus first | exact .inl (Nat.zero_le _) | omega); (focus first | (intro v hv; simp at hv; subst hv; rfl) | (simp [Value.oneCell']; done) | (simp [Value.oneCell', strV]; done)))
                  | (refine W_storeF (A := [_, _]) hp rfl sz24 rfl rfl rfl rfl ?_ ?_ ?_ rfl ?_; (focus first | exact Nat.le_of_ble_eq_true rfl | omega | (simp; omega)); (focus first | exact .inl (Nat.zero_le _) | omega); (focus first | (intro v hv; simp at hv; subst hv; rfl) | (simp [Value.oneCell']; done) | (simp [Value.oneCell', strV]; done)))
                  | (refine W_storeF (A := [_, _, _]) hp rfl sz24 rfl rfl rfl rfl ?_ ?_ ?_ rfl ?_; (focus first | exact Nat.le_of_ble_eq_true rfl | omega | (simp; omega)); (focus first | exact .inl (Nat.zero_le _) | omega); (focus first | (intro v hv; simp at hv; subst hv; rfl) | (simp [Value.oneCell']; done) | (simp [Value.oneCell', strV]; done)))
                  | (refine W_storeF (A := [_, _, _, _]) hp rfl sz24 rfl rfl rfl rfl ?_ ?_ ?_ rfl ?_; (focus first | exact Nat.le_of_ble_eq_true rfl | omega | (simp; omega)); (focus first | exact .inl (Nat.zero_le _) | omega); (focus first | (intro v hv; simp at hv; subst hv; rfl) | (simp [Value.oneCell']; done) | (simp [Value.oneCell', strV]; done)))
                  | (refine W_storeF (A := [_, _, _, _, _]) hp rfl sz24 rfl rfl rfl rfl ?_ ?_ ?_ rfl ?_; (focus first | exact Nat.le_of_ble_eq_true rfl | omega | (simp; omega)); (focus first | exact .inl (Nat.zero_le _) | omega); (focus first | (intro v hv; simp at hv; subst hv; rfl) | (simp [Value.oneCell']; done) | (simp [Value.oneCell', strV]; done)))
                  | (refine W_storeM (A := []) hp rfl sz24 rfl rfl rfl rfl ?_ ?_ ?_ rfl ?_; (focus first | exact Nat.le_of_ble_eq_true rfl | omega | (simp; omega)); (focus first | exact .inl (Nat.zero_le _) | omega); (focus first | (intro v hv; simp at hv; subst hv; rfl) | (simp [Value.oneCell']; done) | (simp [Value.oneCell', strV]; done)))
                  | (refine W_storeM (A := [_]) hp rfl sz24 rfl rfl rfl rfl ?_ ?_ ?_ rfl ?_; (focus first | exact Nat.le_of_ble_eq_true rfl | omega | (simp; omega)); (focus first | exact .inl (Nat.zero_le _) | omega); (focus first | (intro v hv; simp at hv; subst hv; rfl) | (simp [Value.oneCell']; done) | (simp [Value.oneCell', strV]; done)))
                  | (refine W_storeM (A := [_, _]) hp rfl sz24 rfl rfl rfl rfl ?_ ?_ ?_ rfl ?_; (focus first | exact Nat.le_of_ble_eq_true rfl | omega | (simp; omega)); (focus first | exact .inl (Nat.zero_le _) | omega); (focus first | (intro v hv; simp at hv; subst hv; rfl) | (simp [Value.oneCell']; done) | (simp [Value.oneCell', strV]; done)))
                clear hp; intro w hp
                simp only [List.nil_append, List.cons_append, List.append_nil, List.take_succ_cons, List.take_zero, List.drop_succ_cons, List.drop_zero, List.take_nil, List.drop_nil, Nat.zero_add, Nat.add_zero, Nat.reduceAdd, Int.reduceToNat, Int.toNat_natCast, Nat.reduceMul, Nat.mul_one, Nat.zero_mul] at hp
                refine W_assign rfl rfl ?_
                refine W_nil ?_
                refine N_then_k ?_
                refine K_ret ?_
                refine N_block_ret ?_
                refine N_then_ret ?_
                refine N_then_ret ?_
                refine N_block_ret ?_
                refine N_then_ret ?_
                refine N_doneL (.inr rfl) rfl (RVs_cons (RV_agg rfl Tryd.underlying24 rfl sz24 hp (by first | exact List.mem_cons_self | exact .tail _ (.head _) | exact .tail _ (.tail _ (.head _)) | exact .tail _ (.tail _ (.tail _ (.head _))) | exact .tail _ (.tail _ (.tail _ (.tail _ (.head _)))) | exact .tail _ (.tail _ (.tail _ (.tail _ (.tail _ (.head _))))) | exact List.mem_append_right _ (.head _) | exact List.mem_append_right _ (.tail _ (.head _)) | exact List.mem_append_right _ (.tail _ (.tail _ (.head _))) | exact .tail _ (List.mem_append_right _ (.head _)) | exact .tail _ (List.mem_append_right _ (.tail _ (.head _)))) (by first | rfl | (simp; done))) (RVs_cons (RV_tmp rfl) (RVs_nil))) rfl ?_
                refine ⟨_, rfl, ?_, hp.nil⟩
                first
                  | (rw [parV_bad (pf_no hi) (by decide)]; rfl)
                  | (rw [parV_bad (pf_tok hi ht) (by decide)]; rfl)
                  | (rw [parV_bad (pf_bad hi ht hc hn (by assumption)) (by omega), hti]; rfl)
                  | (rw [parV_ok (pf_ok hi ht (by rw [List.take_of_length_le hge] at hn; exact hn))]; rfl))
             · try (exfalso; first | omega | (simp only [Bool.false_eq_true, reduceCtorEq] at hc4; done) | (refine absurd hc4 ?_; with_reducible assumption) | (refine absurd ?_ hc4; with_reducible assumption))
               all_goals (
                refine K_skip ?_
                refine N_block_normal ?_
                refine N_then_k ?_
                refine K_region ?_
                first
                  | (refine W_add rfl rfl (wr_i64 ?_) rfl ?_; (focus (omega)))
                  | (refine W_add rfl rfl rfl rfl ?_)
                refine W_move rfl rfl ?_
                refine W_nil ?_
                refine N_again (k + 1) (sub_end ?_ ?_) ?_ ?_
                · repeat' (first | exact sub_lst_nil (sub_nil _) | refine sub_lst rfl ?_ | (refine sub_lst_eq rfl ?_ ?_; · first | rfl | (simp; done) | (congr 1; omega)))
                · repeat' (first | exact sub_refl _ | exact sub_strip _ _ | refine sub_s_cons rfl ?_ | refine sub_s_lst rfl ?_ | refine sub_s_strip rfl ?_)
                · exact ⟨hp, hlt, takeF hc hn (by assumption)⟩
                · omega))
          · try (exfalso; first | omega | (simp only [Bool.false_eq_true, reduceCtorEq] at hc3; done) | (refine absurd hc3 ?_; with_reducible assumption) | (refine absurd ?_ hc3; with_reducible assumption))
            all_goals (
             refine K_exit ?_
             refine N_then_exit ?_
             refine N_then_exit ?_
             refine N_block_exit ?_
             refine N_then_k ?_
             refine K_seq ?_
             refine K_region ?_
             refine W_move rfl rfl ?_
             refine W_pcall hp rfl (lower_spec (s.take i) (by omega)) rfl ?_
             clear hp; intro w hp
             refine W_move rfl rfl ?_
             refine W_pcall hp rfl (trim_spec (s.drop (i + 1)) (by omega)) rfl ?_
             clear hp; intro w hp
             refine W_build2 rfl rfl  (fun v0 v1 => [v0, v1]) (by kernel_rfl) rfl ?_
             first
               | (refine W_storeF (A := []) hp rfl sz24 rfl rfl rfl rfl ?_ ?_ ?_ rfl ?_; (focus first | exact Nat.le_of_ble_eq_true rfl | omega | (simp; omega)); (focus first | exact .inl (Nat.zero_le _) | omega); (focus first | (intro v hv; simp at hv; subst hv; rfl) | (simp [Value.oneCell']; done) | (simp [Value.oneCell', strV]; done)))
               | (refine W_storeF (A := [_]) hp rfl sz24 rfl rfl rfl rfl ?_ ?_ ?_ rfl ?_; (focus first | exact Nat.le_of_ble_eq_true rfl | omega | (simp; omega)); (focus first | exact .inl (Nat.zero_le _) | omega); (focus first | (intro v hv; simp at hv; subst hv; rfl) | (simp [Value.oneCell']; done) | (simp [Value.oneCell', strV]; done)))
               | (refine W_storeF (A := [_, _]) hp rfl sz24 rfl rfl rfl rfl ?_ ?_ ?_ rfl ?_; (focus first | exact Nat.le_of_ble_eq_true rfl | omega | (simp; omega)); (focus first | exact .inl (Nat.zero_le _) | omega); (focus first | (intro v hv; simp at hv; subst hv; rfl) | (simp [Value.oneCell']; done) | (simp [Value.oneCell', strV]; done)))
               | (refine W_storeF (A := [_, _, _]) hp rfl sz24 rfl rfl rfl rfl ?_ ?_ ?_ rfl ?_; (focus first | exact Nat.le_of_ble_eq_true rfl | omega | (simp; omega)); (focus first | exact .inl (Nat.zero_le _) | omega); (focus first | (intro v hv; simp at hv; subst hv; rfl) | (simp [Value.oneCell']; done) | (simp [Value.oneCell', strV]; done)))
               | (refine W_storeF (A := [_, _, _, _]) hp rfl sz24 rfl rfl rfl rfl ?_ ?_ ?_ rfl ?_; (focus first | exact Nat.le_of_ble_eq_true rfl | omega | (simp; omega)); (focus first | exact .inl (Nat.zero_le _) | omega); (focus first | (intro v hv; simp at hv; subst hv; rfl) | (simp [Value.oneCell']; done) | (simp [Value.oneCell', strV]; done)))
               | (refine W_storeF (A := [_, _, _, _, _]) hp rfl sz24 rfl rfl rfl rfl ?_ ?_ ?_ rfl ?_; (focus first | exact Nat.le_of_ble_eq_true rfl | omega | (simp; omega)); (focus first | exact .inl (Nat.zero_le _) | omega); (focus first | (intro v hv; simp at hv; subst hv; rfl) | (simp [Value.oneCell']; done) | (simp [Value.oneCell', strV]; done)))
               | (refine W_storeM (A := []) hp rfl sz24 rfl rfl rfl rfl ?_ ?_ ?_ rfl ?_; (focus first | exact Nat.le_of_ble_eq_true rfl | omega | (simp; omega)); (focus first | exact .inl (Nat.zero_le _) | omega); (focus first | (intro v hv; simp at hv; subst hv; rfl) | (simp [Value.oneCell']; done) | (simp [Value.oneCell', strV]; done)))
               | (refine W_storeM (A := [_]) hp rfl sz24 rfl rfl rfl rfl ?_ ?_ ?_ rfl ?_; (focus first | exact Nat.le_of_ble_eq_true rfl | omega | (simp; omega)); (focus first | exact .inl (Nat.zero_le _) | omega); (focus first | (intro v hv; simp at hv; subst hv; rfl) | (simp [Value.oneCell']; done) | (simp [Value.oneCell', strV]; done)))
               | (refine W_storeM (A := [_, _]) hp rfl sz24 rfl rfl rfl rfl ?_ ?_ ?_ rfl ?_; (focus first | exact Nat.le_of_ble_eq_true rfl | omega | (simp; omega)); (focus first | exact .inl (Nat.zero_le _) | omega); (focus first | (intro v hv; simp at hv; subst hv; rfl) | (simp [Value.oneCell']; done) | (simp [Value.oneCell', strV]; done)))
             clear hp; intro w hp
             simp only [List.nil_append, List.cons_append, List.append_nil, List.take_succ_cons, List.take_zero, List.drop_succ_cons, List.drop_zero, List.take_nil, List.drop_nil, Nat.zero_add, Nat.add_zero, Nat.reduceAdd, Int.reduceToNat, Int.toNat_natCast, Nat.reduceMul, Nat.mul_one, Nat.zero_mul] at hp
             refine W_assign rfl rfl ?_
             refine W_nil ?_
             refine N_then_k ?_
             refine K_ret ?_
             refine N_doneL (.inr rfl) rfl (RVs_cons (RV_agg rfl Tryd.underlying24 rfl sz24 hp (by first | exact List.mem_cons_self | exact .tail _ (.head _) | exact .tail _ (.tail _ (.head _)) | exact .tail _ (.tail _ (.tail _ (.head _))) | exact .tail _ (.tail _ (.tail _ (.tail _ (.head _)))) | exact .tail _ (.tail _ (.tail _ (.tail _ (.tail _ (.head _))))) | exact List.mem_append_right _ (.head _) | exact List.mem_append_right _ (.tail _ (.head _)) | exact List.mem_append_right _ (.tail _ (.tail _ (.head _))) | exact .tail _ (List.mem_append_right _ (.head _)) | exact .tail _ (List.mem_append_right _ (.tail _ (.head _)))) (by first | rfl | (simp; done))) (RVs_cons (RV_tmp rfl) (RVs_nil))) rfl ?_
             refine ⟨_, rfl, ?_, hp.nil⟩
             first
               | (rw [parV_bad (pf_no hi) (by decide)]; rfl)
               | (rw [parV_bad (pf_tok hi ht) (by decide)]; rfl)
               | (rw [parV_bad (pf_bad hi ht hc hn (by assumption)) (by omega), hti]; rfl)
               | (rw [parV_ok (pf_ok hi ht (by rw [List.take_of_length_le hge] at hn; exact hn))]; rfl))))))

theorem ftext_spec (p : Pair) (h1 : p.1.length ≤ 100000000) (h2 : p.2.length ≤ 100000000) : PureF Tryd.prog 11 [fieldV p] (.string ⟨(p.1 ++ [58, 32] ++ p.2).toArray⟩) := by
  refine PureF.intro go11 Tryd.func11 rfl rfl fun w0 hp => ?_
  refine K_seq ?_
  refine K_region ?_
  refine W_box hp rfl rfl rfl ?_
  clear hp; intro b1 w hp
  refine W_assign rfl rfl ?_
  refine W_nil ?_
  refine N_then_k ?_
  refine K_seq ?_
  refine K_region ?_
  refine W_fieldAddr Tryd.underlying24 rfl sz9 rfl rfl ?_
  refine W_load_s Tryd.underlying9 rfl rfl (by first | exact hp.cellF (by first | exact List.mem_cons_self | exact .tail _ (.head _) | exact .tail _ (.tail _ (.head _)) | exact .tail _ (.tail _ (.tail _ (.head _))) | exact .tail _ (.tail _ (.tail _ (.tail _ (.head _)))) | exact .tail _ (.tail _ (.tail _ (.tail _ (.tail _ (.head _))))) | exact List.mem_append_right _ (.head _) | exact List.mem_append_right _ (.tail _ (.head _)) | exact List.mem_append_right _ (.tail _ (.tail _ (.head _))) | exact .tail _ (List.mem_append_right _ (.head _)) | exact .tail _ (List.mem_append_right _ (.tail _ (.head _)))) rfl | exact hp.cellM (by first | exact List.mem_cons_self | exact .tail _ (.head _) | exact .tail _ (.tail _ (.head _)) | exact .tail _ (.tail _ (.tail _ (.head _))) | exact .tail _ (.tail _ (.tail _ (.tail _ (.head _)))) | exact .tail _ (.tail _ (.tail _ (.tail _ (.tail _ (.head _))))) | exact List.mem_append_right _ (.head _) | exact List.mem_append_right _ (.tail _ (.head _)) | exact List.mem_append_right _ (.tail _ (.tail _ (.head _))) | exact .tail _ (List.mem_append_right _ (.head _)) | exact .tail _ (List.mem_append_right _ (.tail _ (.head _)))) rfl | exact hp.cell_old0 ‹_› | (refine hp.cell_old0 ?_; assumption)) rfl ?_
  refine W_sadd rfl rfl ?_ rfl ?_
  (focus (first | omega | (simp only [List.length_append, List.length_cons, List.length_nil, List.length_drop, List.length_take] at *; omega) | (simp; omega)))
  refine W_fieldAddr Tryd.underlying24 rfl sz9 rfl rfl ?_
  refine W_load_s Tryd.underlying9 rfl rfl (by first | exact hp.cellF (by first | exact List.mem_cons_self | exact .tail _ (.head _) | exact .tail _ (.tail _ (.head _)) | exact .tail _ (.tail _ (.tail _ (.head _))) | exact .tail _ (.tail _ (.tail _ (.tail _ (.head _)))) | exact .tail _ (.tail _ (.tail _ (.tail _ (.tail _ (.head _))))) | exact List.mem_append_right _ (.head _) | exact List.mem_append_right _ (.tail _ (.head _)) | exact List.mem_append_right _ (.tail _ (.tail _ (.head _))) | exact .tail _ (List.mem_append_right _ (.head _)) | exact .tail _ (List.mem_append_right _ (.tail _ (.head _)))) rfl | exact hp.cellM (by first | exact List.mem_cons_self | exact .tail _ (.head _) | exact .tail _ (.tail _ (.head _)) | exact .tail _ (.tail _ (.tail _ (.head _))) | exact .tail _ (.tail _ (.tail _ (.tail _ (.head _)))) | exact .tail _ (.tail _ (.tail _ (.tail _ (.tail _ (.head _))))) | exact List.mem_append_right _ (.head _) | exact List.mem_append_right _ (.tail _ (.head _)) | exact List.mem_append_right _ (.tail _ (.tail _ (.head _))) | exact .tail _ (List.mem_append_right _ (.head _)) | exact .tail _ (List.mem_append_right _ (.tail _ (.head _)))) rfl | exact hp.cell_old0 ‹_› | (refine hp.cell_old0 ?_; assumption)) rfl ?_
  refine W_sadd rfl rfl ?_ rfl ?_
  (focus (first | omega | (simp only [List.length_append, List.length_cons, List.length_nil, List.length_drop, List.length_take] at *; omega) | (simp; omega)))
  refine W_assign rfl rfl ?_
  refine W_nil ?_
  refine N_then_k ?_
  refine K_ret ?_
  refine N_done1 (.inr rfl) rfl rfl ?_
  exact ⟨_, rfl, rfl, hp.nil⟩

end Go.Proofs.YtiimcopdkjbijaaDoor
