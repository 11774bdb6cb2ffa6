/-
  Laws of package reqline, walked.
-/
import Derived.Test.YtcanebnegfnhdaaDoorLaws
namespace Go.Proofs.YtcanebnegfnhdaaDoor
open Go.Sx Go.RowKit
set_option linter.unusedVariables false
set_option linter.unusedSimpArgs false
set_option maxRecDepth 100000

theorem reqText_len (m t : List UInt8) (k : Int) : (reqText m t k).length = m.length + t.length + 10 := by unfold reqText; split <;> simp <;> omega
theorem meth_kind {k : Int} {i : Nat} {x : List UInt8} (h : (methF k)[i]? = some x) : kindF x = k := by
  unfold methF at h
  split at h
  · rename_i e; subst e; rcases i with _ | i <;> simp at h; subst h; decide +kernel
  split at h
  · rename_i e; subst e; rcases i with _ | i <;> simp at h; subst h; decide +kernel
  split at h
  · rename_i e; subst e; rcases i with _ | i <;> simp at h; subst h; decide +kernel
  split at h
  · rename_i e; subst e
    have hi : i < 6 := (List.getElem?_eq_some_iff.1 h).1
    have hall : ∀ j : Fin 6, kindF (othersL.getD j.val []) = 4 := by decide +kernel
    have := hall ⟨i, hi⟩
    rw [List.getD_eq_getElem?_getD, h] at this; exact this
  · simp at h
theorem meth_len (k : Int) : ((1 ≤ k ∧ k ≤ 3) ∧ (methF k).length = 1) ∨ (k = 4 ∧ (methF k).length = 6) ∨ ((k < 1 ∨ 4 < k) ∧ (methF k).length = 0) := by
  unfold methF
  by_cases h1 : k = 1
  · subst h1; exact .inl ⟨by decide, rfl⟩
  by_cases h2 : k = 2
  · subst h2; exact .inl ⟨by decide, rfl⟩
  by_cases h3 : k = 3
  · subst h3; exact .inl ⟨by decide, rfl⟩
  by_cases h4 : k = 4
  · subst h4; exact .inr (.inl ⟨rfl, rfl⟩)
  rw [if_neg h1, if_neg h2, if_neg h3, if_neg h4]
  exact .inr (.inr ⟨by omega, rfl⟩)

theorem ReqlineParses_walk (w0 : World) (hg : ErrT w0) (hR : RulesT w0) (hO : OthersT w0) (s : List UInt8) : PureAt Tryd.prog 3 [.string ⟨s.toArray⟩] (.bool true) w0 := by
  rcases req_cases s with ⟨m, t, k, hr, htx⟩ | ⟨st, a, hst, hr⟩
  all_goals try (have hrl := reqText_len m t k; rw [htx] at hrl)
  all_goals (
   refine PureAt.intro go3 Tryd.func3 rfl rfl fun hp => ?_
   refine (fun (hk : ∀ w, Hp w0 [] [] w → K _ _ _ _ _ w) => hk w0 hp) fun w hp => ?_
   refine K_seq ?_
   refine K_region ?_
   refine W_assign rfl rfl ?_
   refine W_nil ?_
   refine N_then_k ?_
   refine K_seq ?_
   refine K_seq ?_
   refine K_region ?_
   refine W_acall hp rfl ((awake_spec w (hg.keep hp) (hR.keep hp) (hO.keep hp))) rfl ?_
   clear hp; intro w hp
   first
     | (refine W_not_t rfl rfl ?_)
     | (refine W_not_f rfl rfl ?_)
     | (refine W_not rfl rfl ?_)
   refine W_move rfl rfl ?_
   first
     | refine W_guard_lit_t rfl ?_
     | refine W_guard_lit_f rfl ?_
     | refine W_guard_lit_u rfl ?_
     | refine W_guard_split_d rfl rfl rfl (fun hg1 => ?_) (fun hg1 => ?_)
     | refine W_guard_split_n rfl rfl rfl (fun hg1 => ?_) (fun hg1 => ?_)
     | refine W_guard_split_nb rfl rfl rfl (fun hg1 => ?_) (fun hg1 => ?_)
     | refine W_guard_split rfl rfl rfl (fun hg1 => ?_) (fun hg1 => ?_)
   all_goals try (exfalso; first | omega | (simp only [Bool.false_eq_true, reduceCtorEq] at hg1; done) | (refine absurd hg1 ?_; with_reducible assumption) | (refine absurd ?_ hg1; with_reducible assumption))
   all_goals (
    first
      | (iterate 3 refine W_guard_no rfl rfl rfl ?_)
      | (iterate 3 refine W_guard_un rfl rfl ?_)
      | (refine W_guard_yes rfl ?_
         refine W_move rfl rfl ?_
         refine W_guard_yes rfl ?_
         refine W_len_s Tryd.underlying9 rfl rfl ?_
         refine W_guard_yes rfl ?_
         first
           | (refine W_gtr_t rfl rfl ?_ rfl ?_; (focus (omega)))
           | (refine W_gtr_f rfl rfl ?_ rfl ?_; (focus (omega)))
           | (refine W_gtr rfl rfl rfl ?_))
    first
      | (refine W_pick_t rfl rfl rfl ?_)
      | (refine W_pick_f rfl rfl rfl ?_)
      | (refine W_pick_b rfl rfl rfl rfl ?_)
    refine W_nil ?_
    refine N_then_k ?_
    first
      | refine K_cond_d rfl (fun hc2 => ?_) (fun hc2 => ?_)
      | refine K_cond_n rfl (fun hc2 => ?_) (fun hc2 => ?_)
      | refine K_cond_nb rfl (fun hc2 => ?_) (fun hc2 => ?_)
      | refine K_cond_t rfl (fun hc2 => ?_) (fun hc2 => ?_)
    · try (exfalso; first | omega | (simp only [Bool.false_eq_true, reduceCtorEq] at hc2; done) | (refine absurd hc2 ?_; with_reducible assumption) | (refine absurd ?_ hc2; with_reducible assumption))
      all_goals (
       refine K_seq ?_
       refine K_region ?_
       refine W_acall hp rfl ((awake_spec w (hg.keep hp) (hR.keep hp) (hO.keep hp))) rfl ?_
       clear hp; intro w hp
       refine W_assign rfl rfl ?_
       refine W_nil ?_
       refine N_then_k ?_
       refine K_ret ?_
       refine N_then_ret ?_
       refine N_done1 (.inr rfl) rfl rfl ?_
       exact ⟨_, rfl, rfl, hp.nil⟩)
    · try (exfalso; first | omega | (simp only [Bool.false_eq_true, reduceCtorEq] at hc2; done) | (refine absurd hc2 ?_; with_reducible assumption) | (refine absurd ?_ hc2; with_reducible assumption))
      all_goals (
       refine K_skip ?_
       refine N_then_k ?_
       refine K_seq ?_
       refine K_region ?_
       refine W_move rfl rfl ?_
       first
         | (refine W_acall hp rfl ((parse_spec w (hR.keep hp) s (by omega)).eq (reqV_ok hr)) rfl ?_)
         | (refine W_acall hp rfl ((parse_spec w (hR.keep hp) s (by omega)).eq (reqV_bad hst hr)) rfl ?_)
       clear hp; intro w hp
       refine W_move rfl rfl ?_
       refine W_extract rfl rfl rfl ?_
       refine W_extract rfl rfl rfl ?_
       refine W_alloc hp zv24 rfl rfl ?_
       clear hp; intro b3 w hp
       first
         | (refine W_storeF (A := []) hp rfl sz24 rfl rfl rfl rfl ?_ ?_ ?_ rfl ?_; (focus first | exact Nat.le_of_ble_eq_true rfl | omega | (simp; omega)); (focus first | exact .inl (Nat.zero_le _) | omega); (focus first | (intro v hv; simp at hv; subst hv; rfl) | (simp [Value.oneCell']; done) | (simp [Value.oneCell', strV]; done) | (simp [Value.cells, Value.oneCell', strV]; done)))
         | (refine W_storeF (A := [_]) hp rfl sz24 rfl rfl rfl rfl ?_ ?_ ?_ rfl ?_; (focus first | exact Nat.le_of_ble_eq_true rfl | omega | (simp; omega)); (focus first | exact .inl (Nat.zero_le _) | omega); (focus first | (intro v hv; simp at hv; subst hv; rfl) | (simp [Value.oneCell']; done) | (simp [Value.oneCell', strV]; done) | (simp [Value.cells, Value.oneCell', strV]; done)))
         | (refine W_storeF (A := [_, _]) hp rfl sz24 rfl rfl rfl rfl ?_ ?_ ?_ rfl ?_; (focus first | exact Nat.le_of_ble_eq_true rfl | omega | (simp; omega)); (focus first | exact .inl (Nat.zero_le _) | omega); (focus first | (intro v hv; simp at hv; subst hv; rfl) | (simp [Value.oneCell']; done) | (simp [Value.oneCell', strV]; done) | (simp [Value.cells, Value.oneCell', strV]; done)))
         | (refine W_storeF (A := [_, _, _]) hp rfl sz24 rfl rfl rfl rfl ?_ ?_ ?_ rfl ?_; (focus first | exact Nat.le_of_ble_eq_true rfl | omega | (simp; omega)); (focus first | exact .inl (Nat.zero_le _) | omega); (focus first | (intro v hv; simp at hv; subst hv; rfl) | (simp [Value.oneCell']; done) | (simp [Value.oneCell', strV]; done) | (simp [Value.cells, Value.oneCell', strV]; done)))
         | (refine W_storeF (A := [_, _, _, _]) hp rfl sz24 rfl rfl rfl rfl ?_ ?_ ?_ rfl ?_; (focus first | exact Nat.le_of_ble_eq_true rfl | omega | (simp; omega)); (focus first | exact .inl (Nat.zero_le _) | omega); (focus first | (intro v hv; simp at hv; subst hv; rfl) | (simp [Value.oneCell']; done) | (simp [Value.oneCell', strV]; done) | (simp [Value.cells, Value.oneCell', strV]; done)))
         | (refine W_storeF (A := [_, _, _, _, _]) hp rfl sz24 rfl rfl rfl rfl ?_ ?_ ?_ rfl ?_; (focus first | exact Nat.le_of_ble_eq_true rfl | omega | (simp; omega)); (focus first | exact .inl (Nat.zero_le _) | omega); (focus first | (intro v hv; simp at hv; subst hv; rfl) | (simp [Value.oneCell']; done) | (simp [Value.oneCell', strV]; done) | (simp [Value.cells, Value.oneCell', strV]; done)))
         | (refine W_storeM (A := []) hp rfl sz24 rfl rfl rfl rfl ?_ ?_ ?_ rfl ?_; (focus first | exact Nat.le_of_ble_eq_true rfl | omega | (simp; omega)); (focus first | exact .inl (Nat.zero_le _) | omega); (focus first | (intro v hv; simp at hv; subst hv; rfl) | (simp [Value.oneCell']; done) | (simp [Value.oneCell', strV]; done) | (simp [Value.cells, Value.oneCell', strV]; done)))
         | (refine W_storeM (A := [_]) hp rfl sz24 rfl rfl rfl rfl ?_ ?_ ?_ rfl ?_; (focus first | exact Nat.le_of_ble_eq_true rfl | omega | (simp; omega)); (focus first | exact .inl (Nat.zero_le _) | omega); (focus first | (intro v hv; simp at hv; subst hv; rfl) | (simp [Value.oneCell']; done) | (simp [Value.oneCell', strV]; done) | (simp [Value.cells, Value.oneCell', strV]; done)))
         | (refine W_storeM (A := [_, _]) hp rfl sz24 rfl rfl rfl rfl ?_ ?_ ?_ rfl ?_; (focus first | exact Nat.le_of_ble_eq_true rfl | omega | (simp; omega)); (focus first | exact .inl (Nat.zero_le _) | omega); (focus first | (intro v hv; simp at hv; subst hv; rfl) | (simp [Value.oneCell']; done) | (simp [Value.oneCell', strV]; done) | (simp [Value.cells, Value.oneCell', strV]; done)))
         | (refine W_storeP hp sz24 rfl rfl rfl rfl (by repeat (first | exact Pick.here | apply Pick.cons | apply Pick.app)) ?_ ?_ ?_ rfl ?_; (focus first | exact Nat.le_of_ble_eq_true rfl | omega | (simp; omega)); (focus first | exact .inl (Nat.zero_le _) | omega); (focus first | (intro v hv; simp at hv; subst hv; rfl) | (simp [Value.oneCell']; done) | (simp [Value.oneCell', strV]; done) | (simp [Value.cells, Value.oneCell', strV]; done)))
       clear hp; intro w hp
       simp only [List.nil_append, List.cons_append, List.append_nil, List.take_succ_cons, List.take_zero, List.drop_succ_cons, List.drop_zero, List.take_nil, List.drop_nil, Nat.zero_add, Nat.add_zero, Nat.reduceAdd, Int.reduceToNat, Int.toNat_natCast, Nat.reduceMul, Nat.mul_one, Nat.zero_mul] at hp
       refine W_assign rfl rfl ?_
       refine W_nil ?_
       refine N_then_k ?_
       refine K_seq ?_
       refine K_region ?_
       refine W_move rfl rfl ?_
       refine W_acall hp rfl (((rparse_spec w s (by omega)).eq (rreqV_of hr))) rfl ?_
       clear hp; intro w hp
       refine W_move rfl rfl ?_
       refine W_extract rfl rfl rfl ?_
       refine W_extract rfl rfl rfl ?_
       refine W_extract rfl rfl rfl ?_
       refine W_alloc hp zv29 rfl rfl ?_
       clear hp; intro b5 w hp
       first
         | (refine W_storeF (A := []) hp rfl sz29 rfl rfl rfl rfl ?_ ?_ ?_ rfl ?_; (focus first | exact Nat.le_of_ble_eq_true rfl | omega | (simp; omega)); (focus first | exact .inl (Nat.zero_le _) | omega); (focus first | (intro v hv; simp at hv; subst hv; rfl) | (simp [Value.oneCell']; done) | (simp [Value.oneCell', strV]; done) | (simp [Value.cells, Value.oneCell', strV]; done)))
         | (refine W_storeF (A := [_]) hp rfl sz29 rfl rfl rfl rfl ?_ ?_ ?_ rfl ?_; (focus first | exact Nat.le_of_ble_eq_true rfl | omega | (simp; omega)); (focus first | exact .inl (Nat.zero_le _) | omega); (focus first | (intro v hv; simp at hv; subst hv; rfl) | (simp [Value.oneCell']; done) | (simp [Value.oneCell', strV]; done) | (simp [Value.cells, Value.oneCell', strV]; done)))
         | (refine W_storeF (A := [_, _]) hp rfl sz29 rfl rfl rfl rfl ?_ ?_ ?_ rfl ?_; (focus first | exact Nat.le_of_ble_eq_true rfl | omega | (simp; omega)); (focus first | exact .inl (Nat.zero_le _) | omega); (focus first | (intro v hv; simp at hv; subst hv; rfl) | (simp [Value.oneCell']; done) | (simp [Value.oneCell', strV]; done) | (simp [Value.cells, Value.oneCell', strV]; done)))
         | (refine W_storeF (A := [_, _, _]) hp rfl sz29 rfl rfl rfl rfl ?_ ?_ ?_ rfl ?_; (focus first | exact Nat.le_of_ble_eq_true rfl | omega | (simp; omega)); (focus first | exact .inl (Nat.zero_le _) | omega); (focus first | (intro v hv; simp at hv; subst hv; rfl) | (simp [Value.oneCell']; done) | (simp [Value.oneCell', strV]; done) | (simp [Value.cells, Value.oneCell', strV]; done)))
         | (refine W_storeF (A := [_, _, _, _]) hp rfl sz29 rfl rfl rfl rfl ?_ ?_ ?_ rfl ?_; (focus first | exact Nat.le_of_ble_eq_true rfl | omega | (simp; omega)); (focus first | exact .inl (Nat.zero_le _) | omega); (focus first | (intro v hv; simp at hv; subst hv; rfl) | (simp [Value.oneCell']; done) | (simp [Value.oneCell', strV]; done) | (simp [Value.cells, Value.oneCell', strV]; done)))
         | (refine W_storeF (A := [_, _, _, _, _]) hp rfl sz29 rfl rfl rfl rfl ?_ ?_ ?_ rfl ?_; (focus first | exact Nat.le_of_ble_eq_true rfl | omega | (simp; omega)); (focus first | exact .inl (Nat.zero_le _) | omega); (focus first | (intro v hv; simp at hv; subst hv; rfl) | (simp [Value.oneCell']; done) | (simp [Value.oneCell', strV]; done) | (simp [Value.cells, Value.oneCell', strV]; done)))
         | (refine W_storeM (A := []) hp rfl sz29 rfl rfl rfl rfl ?_ ?_ ?_ rfl ?_; (focus first | exact Nat.le_of_ble_eq_true rfl | omega | (simp; omega)); (focus first | exact .inl (Nat.zero_le _) | omega); (focus first | (intro v hv; simp at hv; subst hv; rfl) | (simp [Value.oneCell']; done) | (simp [Value.oneCell', strV]; done) | (simp [Value.cells, Value.oneCell', strV]; done)))
         | (refine W_storeM (A := [_]) hp rfl sz29 rfl rfl rfl rfl ?_ ?_ ?_ rfl ?_; (focus first | exact Nat.le_of_ble_eq_true rfl | omega | (simp; omega)); (focus first | exact .inl (Nat.zero_le _) | omega); (focus first | (intro v hv; simp at hv; subst hv; rfl) | (simp [Value.oneCell']; done) | (simp [Value.oneCell', strV]; done) | (simp [Value.cells, Value.oneCell', strV]; done)))
         | (refine W_storeM (A := [_, _]) hp rfl sz29 rfl rfl rfl rfl ?_ ?_ ?_ rfl ?_; (focus first | exact Nat.le_of_ble_eq_true rfl | omega | (simp; omega)); (focus first | exact .inl (Nat.zero_le _) | omega); (focus first | (intro v hv; simp at hv; subst hv; rfl) | (simp [Value.oneCell']; done) | (simp [Value.oneCell', strV]; done) | (simp [Value.cells, Value.oneCell', strV]; done)))
         | (refine W_storeP hp sz29 rfl rfl rfl rfl (by repeat (first | exact Pick.here | apply Pick.cons | apply Pick.app)) ?_ ?_ ?_ rfl ?_; (focus first | exact Nat.le_of_ble_eq_true rfl | omega | (simp; omega)); (focus first | exact .inl (Nat.zero_le _) | omega); (focus first | (intro v hv; simp at hv; subst hv; rfl) | (simp [Value.oneCell']; done) | (simp [Value.oneCell', strV]; done) | (simp [Value.cells, Value.oneCell', strV]; done)))
       clear hp; intro w hp
       simp only [List.nil_append, List.cons_append, List.append_nil, List.take_succ_cons, List.take_zero, List.drop_succ_cons, List.drop_zero, List.take_nil, List.drop_nil, Nat.zero_add, Nat.add_zero, Nat.reduceAdd, Int.reduceToNat, Int.toNat_natCast, Nat.reduceMul, Nat.mul_one, Nat.zero_mul] at hp
       refine W_assign rfl rfl ?_
       refine W_assign rfl rfl ?_
       refine W_nil ?_
       refine N_then_k ?_
       refine K_seq ?_
       refine K_seq ?_
       refine K_region ?_
       refine W_move rfl rfl ?_
       first
         | (refine W_neq_t rfl rfl ?_ rfl ?_; (focus (omega)))
         | (refine W_neq_f rfl rfl ?_ rfl ?_; (focus (omega)))
         | (refine W_neq rfl rfl rfl ?_)
       refine W_nil ?_
       refine N_then_k ?_
       first
         | refine K_cond_d rfl (fun hc3 => ?_) (fun hc3 => ?_)
         | refine K_cond_n rfl (fun hc3 => ?_) (fun hc3 => ?_)
         | refine K_cond_nb rfl (fun hc3 => ?_) (fun hc3 => ?_)
         | refine K_cond_t rfl (fun hc3 => ?_) (fun hc3 => ?_)
       · try (exfalso; first | omega | (simp only [Bool.false_eq_true, reduceCtorEq] at hc3; done) | (refine absurd hc3 ?_; with_reducible assumption) | (refine absurd ?_ hc3; with_reducible assumption))
         all_goals (
          refine K_seq ?_
          refine K_region ?_
          refine W_load_own Tryd.underlying24 rfl sz24 rfl hp (by first | exact List.mem_cons_self | exact .tail _ (.head _) | exact .tail _ (.tail _ (.head _)) | exact .tail _ (.tail _ (.tail _ (.head _))) | exact .tail _ (.tail _ (.tail _ (.tail _ (.head _)))) | exact .tail _ (.tail _ (.tail _ (.tail _ (.tail _ (.head _))))) | exact List.mem_append_right _ (.head _) | exact List.mem_append_right _ (.tail _ (.head _)) | exact List.mem_append_right _ (.tail _ (.tail _ (.head _))) | exact .tail _ (List.mem_append_right _ (.head _)) | exact .tail _ (List.mem_append_right _ (.tail _ (.head _))) | assumption | (repeat (first | exact List.mem_cons_self | apply List.mem_append_right | apply List.mem_cons_of_mem))) rfl rfl rfl ?_
          refine W_build0  ([(.string ⟨#[]⟩), (.string ⟨#[]⟩), (.int .i64 0)]) (by kernel_rfl) rfl ?_
          refine W_aeql_t (by kernel_rfl) rfl rfl ?_ ?_ rfl ?_
          (focus (first | rfl | assumption))
          (focus (first | rfl | kernel_rfl))
          refine W_move rfl rfl ?_
          first
            | refine W_guard_lit_t rfl ?_
            | refine W_guard_lit_f rfl ?_
            | refine W_guard_lit_u rfl ?_
            | refine W_guard_split_d rfl rfl rfl (fun hg4 => ?_) (fun hg4 => ?_)
            | refine W_guard_split_n rfl rfl rfl (fun hg4 => ?_) (fun hg4 => ?_)
            | refine W_guard_split_nb rfl rfl rfl (fun hg4 => ?_) (fun hg4 => ?_)
            | refine W_guard_split rfl rfl rfl (fun hg4 => ?_) (fun hg4 => ?_)
          all_goals try (exfalso; first | omega | (simp only [Bool.false_eq_true, reduceCtorEq] at hg4; done) | (refine absurd hg4 ?_; with_reducible assumption) | (refine absurd ?_ hg4; with_reducible assumption))
          all_goals (
           first
             | (iterate 4 refine W_guard_no rfl rfl rfl ?_)
             | (iterate 4 refine W_guard_un rfl rfl ?_)
             | (refine W_guard_yes rfl ?_
                refine W_move rfl rfl ?_
                refine W_guard_yes rfl ?_
                refine W_move rfl rfl ?_
                refine W_guard_yes rfl ?_
                refine W_move rfl rfl ?_
                refine W_guard_yes rfl ?_
                refine W_acall hp rfl ((wrong_spec w (hg.keep hp) _ _)) rfl ?_
                clear hp; intro w hp)
           first
             | (refine W_pick_t rfl rfl rfl ?_)
             | (refine W_pick_f rfl rfl rfl ?_)
             | (refine W_pick_b rfl rfl rfl rfl ?_)
           refine W_assign rfl rfl ?_
           refine W_nil ?_
           refine N_then_k ?_
           refine K_ret ?_
           refine N_then_ret ?_
           refine N_done1 (.inr rfl) rfl rfl ?_
           exact ⟨_, rfl, rfl, hp.nil⟩))
       · try (exfalso; first | omega | (simp only [Bool.false_eq_true, reduceCtorEq] at hc3; done) | (refine absurd hc3 ?_; with_reducible assumption) | (refine absurd ?_ hc3; with_reducible assumption))
         all_goals (
          refine K_skip ?_
          refine N_then_k ?_
          refine K_seq ?_
          refine K_region ?_
          refine W_move rfl rfl ?_
          first
            | (refine W_val rfl (inb_of rfl) (R_bin (a := .nilIface) (v := .bool true) rfl rfl (by kernel_rfl)) ?_)
            | (refine W_val rfl (inb_of rfl) (R_bin (v := .bool false) rfl rfl (by kernel_rfl)) ?_)
          refine W_move rfl rfl ?_
          first
            | refine W_guard_lit_t rfl ?_
            | refine W_guard_lit_f rfl ?_
            | refine W_guard_lit_u rfl ?_
            | refine W_guard_split_d rfl rfl rfl (fun hg5 => ?_) (fun hg5 => ?_)
            | refine W_guard_split_n rfl rfl rfl (fun hg5 => ?_) (fun hg5 => ?_)
            | refine W_guard_split_nb rfl rfl rfl (fun hg5 => ?_) (fun hg5 => ?_)
            | refine W_guard_split rfl rfl rfl (fun hg5 => ?_) (fun hg5 => ?_)
          all_goals try (exfalso; first | omega | (simp only [Bool.false_eq_true, reduceCtorEq] at hg5; done) | (refine absurd hg5 ?_; with_reducible assumption) | (refine absurd ?_ hg5; with_reducible assumption))
          all_goals (
           first
             | (iterate 3 refine W_guard_no rfl rfl rfl ?_)
             | (iterate 3 refine W_guard_un rfl rfl ?_)
             | (refine W_guard_yes rfl ?_
                refine W_load_own Tryd.underlying24 rfl sz24 rfl hp (by first | exact List.mem_cons_self | exact .tail _ (.head _) | exact .tail _ (.tail _ (.head _)) | exact .tail _ (.tail _ (.tail _ (.head _))) | exact .tail _ (.tail _ (.tail _ (.tail _ (.head _)))) | exact .tail _ (.tail _ (.tail _ (.tail _ (.tail _ (.head _))))) | exact List.mem_append_right _ (.head _) | exact List.mem_append_right _ (.tail _ (.head _)) | exact List.mem_append_right _ (.tail _ (.tail _ (.head _))) | exact .tail _ (List.mem_append_right _ (.head _)) | exact .tail _ (List.mem_append_right _ (.tail _ (.head _))) | assumption | (repeat (first | exact List.mem_cons_self | apply List.mem_append_right | apply List.mem_cons_of_mem))) rfl rfl rfl ?_
                refine W_guard_yes rfl ?_
                refine W_load_own Tryd.underlying29 rfl sz29 rfl hp (by first | exact List.mem_cons_self | exact .tail _ (.head _) | exact .tail _ (.tail _ (.head _)) | exact .tail _ (.tail _ (.tail _ (.head _))) | exact .tail _ (.tail _ (.tail _ (.tail _ (.head _)))) | exact .tail _ (.tail _ (.tail _ (.tail _ (.tail _ (.head _))))) | exact List.mem_append_right _ (.head _) | exact List.mem_append_right _ (.tail _ (.head _)) | exact List.mem_append_right _ (.tail _ (.tail _ (.head _))) | exact .tail _ (List.mem_append_right _ (.head _)) | exact .tail _ (List.mem_append_right _ (.tail _ (.head _))) | assumption | (repeat (first | exact List.mem_cons_self | apply List.mem_append_right | apply List.mem_cons_of_mem))) rfl rfl rfl ?_
                refine W_guard_yes rfl ?_
                refine W_aeql_t (by kernel_rfl) rfl rfl ?_ ?_ rfl ?_
                (focus (first | rfl | assumption))
                (focus (first | rfl | kernel_rfl)))
           first
             | (refine W_pick_t rfl rfl rfl ?_)
             | (refine W_pick_f rfl rfl rfl ?_)
             | (refine W_pick_b rfl rfl rfl rfl ?_)
           refine W_move rfl rfl ?_
           first
             | refine W_guard_lit_t rfl ?_
             | refine W_guard_lit_f rfl ?_
             | refine W_guard_lit_u rfl ?_
             | refine W_guard_split_d rfl rfl rfl (fun hg6 => ?_) (fun hg6 => ?_)
             | refine W_guard_split_n rfl rfl rfl (fun hg6 => ?_) (fun hg6 => ?_)
             | refine W_guard_split_nb rfl rfl rfl (fun hg6 => ?_) (fun hg6 => ?_)
             | refine W_guard_split rfl rfl rfl (fun hg6 => ?_) (fun hg6 => ?_)
           all_goals try (exfalso; first | omega | (simp only [Bool.false_eq_true, reduceCtorEq] at hg6; done) | (refine absurd hg6 ?_; with_reducible assumption) | (refine absurd ?_ hg6; with_reducible assumption))
           all_goals (
            first
              | (iterate 4 refine W_guard_no rfl rfl rfl ?_)
              | (iterate 4 refine W_guard_un rfl rfl ?_)
              | (refine W_guard_yes rfl ?_
                 refine W_load_own Tryd.underlying24 rfl sz24 rfl hp (by first | exact List.mem_cons_self | exact .tail _ (.head _) | exact .tail _ (.tail _ (.head _)) | exact .tail _ (.tail _ (.tail _ (.head _))) | exact .tail _ (.tail _ (.tail _ (.tail _ (.head _)))) | exact .tail _ (.tail _ (.tail _ (.tail _ (.tail _ (.head _))))) | exact List.mem_append_right _ (.head _) | exact List.mem_append_right _ (.tail _ (.head _)) | exact List.mem_append_right _ (.tail _ (.tail _ (.head _))) | exact .tail _ (List.mem_append_right _ (.head _)) | exact .tail _ (List.mem_append_right _ (.tail _ (.head _))) | assumption | (repeat (first | exact List.mem_cons_self | apply List.mem_append_right | apply List.mem_cons_of_mem))) rfl rfl rfl ?_
                 refine W_guard_yes rfl ?_
                 refine W_acall hp rfl (((rtext_spec w m t k (by omega) (by omega)).eq (congrArg strV htx))) rfl ?_
                 clear hp; intro w hp
                 refine W_guard_yes rfl ?_
                 refine W_move rfl rfl ?_
                 refine W_guard_yes rfl ?_
                 first
                   | (refine W_seql_t rfl rfl ?_ rfl ?_; (focus (first | rfl | assumption)))
                   | (refine W_seql_f rfl rfl ?_ rfl ?_; (focus (first | assumption | decide | exact List.cons_ne_nil _ _)))
                   | (refine W_seql rfl rfl rfl ?_))
            first
              | (refine W_pick_t rfl rfl rfl ?_)
              | (refine W_pick_f rfl rfl rfl ?_)
              | (refine W_pick_b rfl rfl rfl rfl ?_)
            refine W_assign rfl rfl ?_
            refine W_nil ?_
            refine N_then_k ?_
            refine K_ret ?_
            refine N_done1 (.inr rfl) rfl rfl ?_
            exact ⟨_, rfl, rfl, hp.nil⟩))))))

theorem ReqlineKinds_walk (w0 : World) (hg : ErrT w0) (hR : RulesT w0) (hO : OthersT w0) (m : List UInt8) (k : Int) : PureAt Tryd.prog 5 [.string ⟨m.toArray⟩, .int .i64 k] (.bool true) w0 := by
  have hml := meth_len k
  refine PureAt.intro go5 Tryd.func5 rfl rfl fun hp => ?_
  refine (fun (hk : ∀ w, Hp w0 [] [] w → K _ _ _ _ _ w) => hk w0 hp) fun w hp => ?_
  refine K_seq ?_
  refine K_region ?_
  refine W_assign rfl rfl ?_
  refine W_nil ?_
  refine N_then_k ?_
  refine K_seq ?_
  refine K_seq ?_
  refine K_region ?_
  refine W_acall hp rfl ((awake_spec w (hg.keep hp) (hR.keep hp) (hO.keep hp))) rfl ?_
  clear hp; intro w hp
  first
    | (refine W_not_t rfl rfl ?_)
    | (refine W_not_f rfl rfl ?_)
    | (refine W_not rfl rfl ?_)
  refine W_move rfl rfl ?_
  first
    | refine W_guard_lit_t rfl ?_
    | refine W_guard_lit_f rfl ?_
    | refine W_guard_lit_u rfl ?_
    | refine W_guard_split_d rfl rfl rfl (fun hg1 => ?_) (fun hg1 => ?_)
    | refine W_guard_split_n rfl rfl rfl (fun hg1 => ?_) (fun hg1 => ?_)
    | refine W_guard_split_nb rfl rfl rfl (fun hg1 => ?_) (fun hg1 => ?_)
    | refine W_guard_split rfl rfl rfl (fun hg1 => ?_) (fun hg1 => ?_)
  all_goals try (exfalso; first | omega | (simp only [Bool.false_eq_true, reduceCtorEq] at hg1; done) | (refine absurd hg1 ?_; with_reducible assumption) | (refine absurd ?_ hg1; with_reducible assumption))
  all_goals (
   first
     | (iterate 3 refine W_guard_no rfl rfl rfl ?_)
     | (iterate 3 refine W_guard_un rfl rfl ?_)
     | (refine W_guard_yes rfl ?_
        refine W_move rfl rfl ?_
        refine W_guard_yes rfl ?_
        refine W_len_s Tryd.underlying9 rfl rfl ?_
        refine W_guard_yes rfl ?_
        first
          | (refine W_gtr_t rfl rfl ?_ rfl ?_; (focus (omega)))
          | (refine W_gtr_f rfl rfl ?_ rfl ?_; (focus (omega)))
          | (refine W_gtr rfl rfl rfl ?_))
   first
     | (refine W_pick_t rfl rfl rfl ?_)
     | (refine W_pick_f rfl rfl rfl ?_)
     | (refine W_pick_b rfl rfl rfl rfl ?_)
   refine W_nil ?_
   refine N_then_k ?_
   first
     | refine K_cond_d rfl (fun hc2 => ?_) (fun hc2 => ?_)
     | refine K_cond_n rfl (fun hc2 => ?_) (fun hc2 => ?_)
     | refine K_cond_nb rfl (fun hc2 => ?_) (fun hc2 => ?_)
     | refine K_cond_t rfl (fun hc2 => ?_) (fun hc2 => ?_)
   · try (exfalso; first | omega | (simp only [Bool.false_eq_true, reduceCtorEq] at hc2; done) | (refine absurd hc2 ?_; with_reducible assumption) | (refine absurd ?_ hc2; with_reducible assumption))
     all_goals (
      refine K_seq ?_
      refine K_region ?_
      refine W_acall hp rfl ((awake_spec w (hg.keep hp) (hR.keep hp) (hO.keep hp))) rfl ?_
      clear hp; intro w hp
      refine W_assign rfl rfl ?_
      refine W_nil ?_
      refine N_then_k ?_
      refine K_ret ?_
      refine N_then_ret ?_
      refine N_done1 (.inr rfl) rfl rfl ?_
      refine ⟨_, rfl, congrArg Value.bool ?_, hp.nil⟩
      first
        | rfl
        | (refine decide_eq_true ?_; omega))
   · try (exfalso; first | omega | (simp only [Bool.false_eq_true, reduceCtorEq] at hc2; done) | (refine absurd hc2 ?_; with_reducible assumption) | (refine absurd ?_ hc2; with_reducible assumption))
     all_goals (
      refine K_skip ?_
      refine N_then_k ?_
      refine K_seq ?_
      refine K_seq ?_
      refine K_region ?_
      refine W_move rfl rfl ?_
      refine W_acall hp rfl ((kind_spec w (hO.keep hp) m)) rfl ?_
      clear hp; intro w hp
      refine W_move rfl rfl ?_
      refine W_acall hp rfl ((rkind_spec w m)) rfl ?_
      clear hp; intro w hp
      first
        | (refine W_neq_t rfl rfl ?_ rfl ?_; (focus (omega)))
        | (refine W_neq_f rfl rfl ?_ rfl ?_; (focus (omega)))
        | (refine W_neq rfl rfl rfl ?_)
      refine W_nil ?_
      refine N_then_k ?_
      first
        | refine K_cond_d rfl (fun hc3 => ?_) (fun hc3 => ?_)
        | refine K_cond_n rfl (fun hc3 => ?_) (fun hc3 => ?_)
        | refine K_cond_nb rfl (fun hc3 => ?_) (fun hc3 => ?_)
        | refine K_cond_t rfl (fun hc3 => ?_) (fun hc3 => ?_)
      · try (exfalso; first | omega | (simp only [Bool.false_eq_true, reduceCtorEq] at hc3; done) | (refine absurd hc3 ?_; with_reducible assumption) | (refine absurd ?_ hc3; with_reducible assumption))
        all_goals (
         refine K_seq ?_
         refine K_region ?_
         refine W_assign rfl rfl ?_
         refine W_nil ?_
         refine N_then_k ?_
         refine K_ret ?_
         refine N_then_ret ?_
         refine N_done1 (.inr rfl) rfl rfl ?_
         refine ⟨_, rfl, congrArg Value.bool ?_, hp.nil⟩
         first
           | rfl
           | (refine decide_eq_true ?_; omega))
      · try (exfalso; first | omega | (simp only [Bool.false_eq_true, reduceCtorEq] at hc3; done) | (refine absurd hc3 ?_; with_reducible assumption) | (refine absurd ?_ hc3; with_reducible assumption))
        all_goals (
         refine K_skip ?_
         refine N_then_k ?_
         refine K_seq ?_
         refine K_region ?_
         refine W_move rfl rfl ?_
         refine W_bcall hp rfl ((methods_spec w (hO.keep hp) k)) rfl ?_
         clear hp; intro v22 G22 w r22 hp
         obtain ⟨A22, c22, rfl⟩ := r22.form
         refine W_assign rfl rfl ?_
         refine W_nil ?_
         refine N_then_k ?_
         refine K_seq ?_
         refine K_seq ?_
         refine K_region ?_
         refine W_assign rfl rfl ?_
         refine W_nil ?_
         refine N_then_k ?_
         refine K_block ?_
         refine K_loop (σ := Nat) [4, 6, 23, 24, 25, 26, 27, 28, 29, 30, 31, 32, 33, 34, 35]
             (fun i => [(6, .int .i64 i)])
             (fun i w => Hp w0 [] G22 w ∧ i ≤ (methF k).length)
             (fun i => (methF k).length - i) (0) ?_ ?_ ?_
         · repeat' (first | exact sub_lst_nil (sub_nil _) | refine sub_lst rfl ?_ | (refine sub_lst_eq rfl ?_ ?_; · first | rfl | (simp; done) | (congr 1; omega)))
         · exact ⟨by simpa using hp, Nat.zero_le _⟩
         · intro i w hJ
           clear hp
           obtain ⟨hp, hle⟩ := hJ
           rcases Nat.lt_or_ge i (methF k).length with hlt | hge
           all_goals (
            refine K_seq ?_
            refine K_seq ?_
            refine K_region ?_
            refine W_move rfl rfl ?_
            refine W_move rfl rfl ?_
            refine W_len_sl Tryd.underlying38 rfl rfl ?_
            first
              | (refine W_lss_t rfl rfl ?_ rfl ?_; (focus (omega)))
              | (refine W_lss_f rfl rfl ?_ rfl ?_; (focus (omega)))
              | (refine W_lss rfl rfl rfl ?_)
            refine W_nil ?_
            refine N_then_k ?_
            first
              | refine K_cond_d rfl (fun hc4 => ?_) (fun hc4 => ?_)
              | refine K_cond_n rfl (fun hc4 => ?_) (fun hc4 => ?_)
              | refine K_cond_nb rfl (fun hc4 => ?_) (fun hc4 => ?_)
              | refine K_cond_t rfl (fun hc4 => ?_) (fun hc4 => ?_)
            · try (exfalso; first | omega | (simp only [Bool.false_eq_true, reduceCtorEq] at hc4; done) | (refine absurd hc4 ?_; with_reducible assumption) | (refine absurd ?_ hc4; with_reducible assumption))
              all_goals (
               refine K_skip ?_
               refine N_then_k ?_
               refine K_seq ?_
               refine K_block ?_
               refine K_seq ?_
               obtain ⟨x, hx⟩ : ∃ x, (methF k)[i]? = some x := ⟨_, List.getElem?_eq_getElem hlt⟩
               have hrd := OS.rdm (show OS _ _ _ _ _ _ from r22) (w := w) (fun p hq => hp.own p (by simp [hq]))
               obtain ⟨bb, oo, rfl⟩ := hrd.some (by intro e; have := congrArg List.length e; rw [List.length_map, List.length_nil] at this; omega)
               have hxc := hrd.cell (strV_at hx)
               refine K_region ?_
               refine W_move rfl rfl ?_
               refine W_move rfl rfl ?_
               refine W_indexAddr_sl Tryd.underlying38 sz9 rfl rfl ?_ ?_ rfl ?_
               (focus (omega))
               (focus (first | omega | (simp; done) | (simp; omega)))
               refine W_load_s Tryd.underlying9 rfl rfl (by exact (show w.cell? ⟨bb, oo + (i : Int).toNat * 1, none⟩ = some (strV x) by rw [show oo + (i : Int).toNat * 1 = oo + i by omega]; exact hxc)) rfl ?_
               refine W_acall hp rfl (((rkind_spec w x).eq (congrArg (Value.int .i64) (meth_kind hx)))) rfl ?_
               clear hp; intro w hp
               refine W_move rfl rfl ?_
               first
                 | (refine W_neq_t rfl rfl ?_ rfl ?_; (focus (omega)))
                 | (refine W_neq_f rfl rfl ?_ rfl ?_; (focus (omega)))
                 | (refine W_neq rfl rfl rfl ?_)
               refine W_nil ?_
               refine N_then_k ?_
               first
                 | refine K_cond_d rfl (fun hc5 => ?_) (fun hc5 => ?_)
                 | refine K_cond_n rfl (fun hc5 => ?_) (fun hc5 => ?_)
                 | refine K_cond_nb rfl (fun hc5 => ?_) (fun hc5 => ?_)
                 | refine K_cond_t rfl (fun hc5 => ?_) (fun hc5 => ?_)
               · try (exfalso; first | omega | (simp only [Bool.false_eq_true, reduceCtorEq] at hc5; done) | (refine absurd hc5 ?_; with_reducible assumption) | (refine absurd ?_ hc5; with_reducible assumption))
                 all_goals (
                  refine K_seq ?_
                  refine K_region ?_
                  refine W_assign rfl rfl ?_
                  refine W_nil ?_
                  refine N_then_k ?_
                  refine K_ret ?_
                  refine N_block_ret ?_
                  refine N_then_ret ?_
                  refine N_then_ret ?_
                  refine N_block_ret ?_
                  refine N_then_ret ?_
                  refine N_done1 (.inr rfl) rfl rfl ?_
                  refine ⟨_, rfl, congrArg Value.bool ?_, hp.nil⟩
                  first
                    | rfl
                    | (refine decide_eq_true ?_; omega))
               · try (exfalso; first | omega | (simp only [Bool.false_eq_true, reduceCtorEq] at hc5; done) | (refine absurd hc5 ?_; with_reducible assumption) | (refine absurd ?_ hc5; with_reducible assumption))
                 all_goals (
                  refine K_skip ?_
                  refine N_block_normal ?_
                  refine N_then_k ?_
                  refine K_region ?_
                  refine W_move rfl rfl ?_
                  first
                    | (refine W_add rfl rfl (wr_i64 ?_) rfl ?_; (focus (omega)))
                    | (refine W_add rfl rfl rfl rfl ?_)
                  refine W_assign rfl rfl ?_
                  refine W_nil ?_
                  refine N_again (i + 1) (sub_end ?_ ?_) ?_ ?_
                  · repeat' (first | exact sub_lst_nil (sub_nil _) | refine sub_lst rfl ?_ | (refine sub_lst_eq rfl ?_ ?_; · first | rfl | (simp; done) | (congr 1; omega)))
                  · repeat' (first | exact sub_refl _ | exact sub_strip _ _ | refine sub_s_cons rfl ?_ | refine sub_s_lst rfl ?_ | refine sub_s_strip rfl ?_)
                  · exact ⟨hp, hlt⟩
                  · omega))
            · try (exfalso; first | omega | (simp only [Bool.false_eq_true, reduceCtorEq] at hc4; done) | (refine absurd hc4 ?_; with_reducible assumption) | (refine absurd ?_ hc4; with_reducible assumption))
              all_goals (
               refine K_exit ?_
               refine N_then_exit ?_
               refine N_then_exit ?_
               refine N_block_exit ?_
               refine N_then_k ?_
               refine K_seq ?_
               refine K_region ?_
               refine W_assign rfl rfl ?_
               refine W_nil ?_
               refine N_then_k ?_
               refine K_seq ?_
               refine K_seq ?_
               refine K_region ?_
               refine W_move rfl rfl ?_
               first
                 | (refine W_geq_t rfl rfl ?_ rfl ?_; (focus (omega)))
                 | (refine W_geq_f rfl rfl ?_ rfl ?_; (focus (omega)))
                 | (refine W_geq rfl rfl rfl ?_)
               refine W_move rfl rfl ?_
               first
                 | refine W_guard_lit_t rfl ?_
                 | refine W_guard_lit_f rfl ?_
                 | refine W_guard_lit_u rfl ?_
                 | refine W_guard_split_d rfl rfl rfl (fun hg6 => ?_) (fun hg6 => ?_)
                 | refine W_guard_split_n rfl rfl rfl (fun hg6 => ?_) (fun hg6 => ?_)
                 | refine W_guard_split_nb rfl rfl rfl (fun hg6 => ?_) (fun hg6 => ?_)
                 | refine W_guard_split rfl rfl rfl (fun hg6 => ?_) (fun hg6 => ?_)
               all_goals try (exfalso; first | omega | (simp only [Bool.false_eq_true, reduceCtorEq] at hg6; done) | (refine absurd hg6 ?_; with_reducible assumption) | (refine absurd ?_ hg6; with_reducible assumption))
               all_goals (
                first
                  | (iterate 2 refine W_guard_no rfl rfl rfl ?_)
                  | (iterate 2 refine W_guard_un rfl rfl ?_)
                  | (refine W_guard_yes rfl ?_
                     refine W_move rfl rfl ?_
                     refine W_guard_yes rfl ?_
                     first
                       | (refine W_leq_t rfl rfl ?_ rfl ?_; (focus (omega)))
                       | (refine W_leq_f rfl rfl ?_ rfl ?_; (focus (omega)))
                       | (refine W_leq rfl rfl rfl ?_))
                first
                  | (refine W_pick_t rfl rfl rfl ?_)
                  | (refine W_pick_f rfl rfl rfl ?_)
                  | (refine W_pick_b rfl rfl rfl rfl ?_)
                refine W_nil ?_
                refine N_then_k ?_
                first
                  | refine K_cond_d rfl (fun hc7 => ?_) (fun hc7 => ?_)
                  | refine K_cond_n rfl (fun hc7 => ?_) (fun hc7 => ?_)
                  | refine K_cond_nb rfl (fun hc7 => ?_) (fun hc7 => ?_)
                  | refine K_cond_t rfl (fun hc7 => ?_) (fun hc7 => ?_)
                · try (exfalso; first | omega | (simp only [Bool.false_eq_true, reduceCtorEq] at hc7; done) | (refine absurd hc7 ?_; with_reducible assumption) | (refine absurd ?_ hc7; with_reducible assumption))
                  all_goals (
                   refine K_region ?_
                   refine W_assign rfl rfl ?_
                   refine W_nil ?_
                   refine N_then_k ?_
                   refine K_seq ?_
                   refine K_seq ?_
                   refine K_region ?_
                   refine W_move rfl rfl ?_
                   first
                     | (refine W_eql_t rfl rfl ?_ rfl ?_; (focus (omega)))
                     | (refine W_eql_f rfl rfl ?_ rfl ?_; (focus (omega)))
                     | (refine W_eql rfl rfl rfl ?_)
                   refine W_nil ?_
                   refine N_then_k ?_
                   first
                     | refine K_cond_d rfl (fun hc8 => ?_) (fun hc8 => ?_)
                     | refine K_cond_n rfl (fun hc8 => ?_) (fun hc8 => ?_)
                     | refine K_cond_nb rfl (fun hc8 => ?_) (fun hc8 => ?_)
                     | refine K_cond_t rfl (fun hc8 => ?_) (fun hc8 => ?_)
                   · try (exfalso; first | omega | (simp only [Bool.false_eq_true, reduceCtorEq] at hc8; done) | (refine absurd hc8 ?_; with_reducible assumption) | (refine absurd ?_ hc8; with_reducible assumption))
                     all_goals (
                      refine K_region ?_
                      refine W_assign rfl rfl ?_
                      refine W_nil ?_
                      refine N_then_k ?_
                      refine K_seq ?_
                      refine K_region ?_
                      refine W_move rfl rfl ?_
                      refine W_len_sl Tryd.underlying38 rfl rfl ?_
                      refine W_move rfl rfl ?_
                      first
                        | (refine W_eql_t rfl rfl ?_ rfl ?_; (focus (omega)))
                        | (refine W_eql_f rfl rfl ?_ rfl ?_; (focus (omega)))
                        | (refine W_eql rfl rfl rfl ?_)
                      refine W_assign rfl rfl ?_
                      refine W_nil ?_
                      refine N_then_k ?_
                      refine K_ret ?_
                      refine N_done1 (.inr rfl) rfl rfl ?_
                      refine ⟨_, rfl, congrArg Value.bool ?_, hp.nil⟩
                      first
                        | rfl
                        | (refine decide_eq_true ?_; omega))
                   · try (exfalso; first | omega | (simp only [Bool.false_eq_true, reduceCtorEq] at hc8; done) | (refine absurd hc8 ?_; with_reducible assumption) | (refine absurd ?_ hc8; with_reducible assumption))
                     all_goals (
                      refine K_skip ?_
                      refine N_then_k ?_
                      refine K_seq ?_
                      refine K_region ?_
                      refine W_move rfl rfl ?_
                      refine W_len_sl Tryd.underlying38 rfl rfl ?_
                      refine W_move rfl rfl ?_
                      first
                        | (refine W_eql_t rfl rfl ?_ rfl ?_; (focus (omega)))
                        | (refine W_eql_f rfl rfl ?_ rfl ?_; (focus (omega)))
                        | (refine W_eql rfl rfl rfl ?_)
                      refine W_assign rfl rfl ?_
                      refine W_nil ?_
                      refine N_then_k ?_
                      refine K_ret ?_
                      refine N_done1 (.inr rfl) rfl rfl ?_
                      refine ⟨_, rfl, congrArg Value.bool ?_, hp.nil⟩
                      first
                        | rfl
                        | (refine decide_eq_true ?_; omega)))
                · try (exfalso; first | omega | (simp only [Bool.false_eq_true, reduceCtorEq] at hc7; done) | (refine absurd hc7 ?_; with_reducible assumption) | (refine absurd ?_ hc7; with_reducible assumption))
                  all_goals (
                   refine K_skip ?_
                   refine N_then_k ?_
                   refine K_seq ?_
                   refine K_seq ?_
                   refine K_region ?_
                   refine W_move rfl rfl ?_
                   first
                     | (refine W_eql_t rfl rfl ?_ rfl ?_; (focus (omega)))
                     | (refine W_eql_f rfl rfl ?_ rfl ?_; (focus (omega)))
                     | (refine W_eql rfl rfl rfl ?_)
                   refine W_nil ?_
                   refine N_then_k ?_
                   first
                     | refine K_cond_d rfl (fun hc9 => ?_) (fun hc9 => ?_)
                     | refine K_cond_n rfl (fun hc9 => ?_) (fun hc9 => ?_)
                     | refine K_cond_nb rfl (fun hc9 => ?_) (fun hc9 => ?_)
                     | refine K_cond_t rfl (fun hc9 => ?_) (fun hc9 => ?_)
                   · try (exfalso; first | omega | (simp only [Bool.false_eq_true, reduceCtorEq] at hc9; done) | (refine absurd hc9 ?_; with_reducible assumption) | (refine absurd ?_ hc9; with_reducible assumption))
                     all_goals (
                      refine K_region ?_
                      refine W_assign rfl rfl ?_
                      refine W_nil ?_
                      refine N_then_k ?_
                      refine K_seq ?_
                      refine K_region ?_
                      refine W_move rfl rfl ?_
                      refine W_len_sl Tryd.underlying38 rfl rfl ?_
                      refine W_move rfl rfl ?_
                      first
                        | (refine W_eql_t rfl rfl ?_ rfl ?_; (focus (omega)))
                        | (refine W_eql_f rfl rfl ?_ rfl ?_; (focus (omega)))
                        | (refine W_eql rfl rfl rfl ?_)
                      refine W_assign rfl rfl ?_
                      refine W_nil ?_
                      refine N_then_k ?_
                      refine K_ret ?_
                      refine N_done1 (.inr rfl) rfl rfl ?_
                      refine ⟨_, rfl, congrArg Value.bool ?_, hp.nil⟩
                      first
                        | rfl
                        | (refine decide_eq_true ?_; omega))
                   · try (exfalso; first | omega | (simp only [Bool.false_eq_true, reduceCtorEq] at hc9; done) | (refine absurd hc9 ?_; with_reducible assumption) | (refine absurd ?_ hc9; with_reducible assumption))
                     all_goals (
                      refine K_skip ?_
                      refine N_then_k ?_
                      refine K_seq ?_
                      refine K_region ?_
                      refine W_move rfl rfl ?_
                      refine W_len_sl Tryd.underlying38 rfl rfl ?_
                      refine W_move rfl rfl ?_
                      first
                        | (refine W_eql_t rfl rfl ?_ rfl ?_; (focus (omega)))
                        | (refine W_eql_f rfl rfl ?_ rfl ?_; (focus (omega)))
                        | (refine W_eql rfl rfl rfl ?_)
                      refine W_assign rfl rfl ?_
                      refine W_nil ?_
                      refine N_then_k ?_
                      refine K_ret ?_
                      refine N_done1 (.inr rfl) rfl rfl ?_
                      refine ⟨_, rfl, congrArg Value.bool ?_, hp.nil⟩
                      first
                        | rfl
                        | (refine decide_eq_true ?_; omega)))))))))

end Go.Proofs.YtcanebnegfnhdaaDoor
