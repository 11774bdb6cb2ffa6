/-
  The reference implementation of package digest, walked: digits.
-/
import Derived.Test.YtbdmaiipohfnaaaDoorShaX
namespace Go.Proofs.YtbdmaiipohfnaaaDoor
open Go.Sx Go.RowKit
set_option linter.unusedVariables false
set_option linter.unusedSimpArgs false
set_option maxRecDepth 100000

theorem rhexs_spec (w0 : World) (D : List UInt8) (hDl : D.length = 32) : PureAt Tryd.prog 53 [.agg (bytesV D).toArray] (.string ⟨(hexL D).toArray⟩) w0 := by
  refine PureAt.intro go53 Tryd.func53 rfl rfl fun hp => ?_
  refine (fun (hk : ∀ w, Hp w0 [] [] w → K _ _ _ _ _ w) => hk w0 hp) fun w hp => ?_
  refine K_seq ?_
  refine K_region ?_
  refine W_box hp rfl rfl rfl ?_
  clear hp; intro b1 w hp
  refine W_assign rfl rfl ?_
  refine W_nil ?_
  refine N_then_k ?_
  refine K_seq ?_
  refine K_region ?_
  refine W_assign rfl rfl ?_
  refine W_nil ?_
  refine N_then_k ?_
  refine K_seq ?_
  refine K_region ?_
  refine W_assign rfl rfl ?_
  refine W_nil ?_
  refine N_then_k ?_
  refine K_seq ?_
  refine K_seq ?_
  refine K_region ?_
  refine W_assign rfl rfl ?_
  refine W_nil ?_
  refine N_then_k ?_
  refine K_block ?_
  refine K_loop (σ := Nat) [4, 5, 6, 7, 8, 9, 10, 11, 12, 13, 14, 15, 16, 17, 18, 19, 20, 21, 22, 23, 24, 25, 26, 27, 28, 29, 30, 31]
      (fun i => [(5, .int .i64 i), (4, .string ⟨(hexL (D.take i)).toArray⟩)])
      (fun i w => Hp w0 [] [(b1, .cells (bytesV D).toArray 98)] w ∧ i ≤ 32)
      (fun i => 32 - i) (0) ?_ ?_ ?_
  · repeat' (first | exact sub_lst_nil (sub_nil _) | refine sub_lst rfl ?_ | (refine sub_lst_eq rfl ?_ ?_; · first | rfl | (simp; done) | (congr 1; omega)))
  · exact ⟨hp, Nat.zero_le _⟩
  · intro i w hJ
    clear hp
    obtain ⟨hp, hle⟩ := hJ
    rcases Nat.lt_or_ge i 32 with hlt | hge
    all_goals (
     refine K_seq ?_
     refine K_seq ?_
     refine K_region ?_
     refine W_move rfl rfl ?_
     first
       | (refine W_lss_t rfl rfl ?_ rfl ?_; (focus (omega)))
       | (refine W_lss_f rfl rfl ?_ rfl ?_; (focus (omega)))
       | (refine W_lss rfl rfl rfl ?_)
     refine W_nil ?_
     refine N_then_k ?_
     first
       | refine K_cond_d rfl (fun hc1 => ?_) (fun hc1 => ?_)
       | refine K_cond_n rfl (fun hc1 => ?_) (fun hc1 => ?_)
       | refine K_cond_nb rfl (fun hc1 => ?_) (fun hc1 => ?_)
       | refine K_cond_t rfl (fun hc1 => ?_) (fun hc1 => ?_)
     · try (exfalso; first | omega | (simp only [Bool.false_eq_true, reduceCtorEq] at hc1; done) | (refine absurd hc1 ?_; with_reducible assumption) | (refine absurd ?_ hc1; with_reducible assumption))
       all_goals (
        refine K_skip ?_
        refine N_then_k ?_
        refine K_seq ?_
        refine K_block ?_
        refine K_seq ?_
        refine K_region ?_
        obtain ⟨x, hx⟩ : ∃ x, D[i]? = some x := ⟨_, List.getElem?_eq_getElem (by omega)⟩
        have hu := x.toNat_lt
        have hhl := hexL_length (D.take i)
        have hti : (D.take i).length = i := by rw [List.length_take]; omega
        refine W_move rfl rfl ?_
        refine W_indexAddr_ar Tryd.underlying98 sz5 rfl rfl ?_ ?_ rfl ?_
        (focus (omega))
        (focus (first | omega | (simp; done) | (simp; omega)))
        refine W_load_s Tryd.underlying5 rfl rfl (by exact hp.cellF List.mem_cons_self (show (bytesV D)[0 + (i : Int).toNat * 1]? = some (.int .u8 (x.toNat : Int)) by rw [show 0 + (i : Int).toNat * 1 = i by omega]; exact bytesV_at hx)) rfl ?_
        first
          | (refine W_conv_i Tryd.underlying5 Tryd.underlying3 rfl (wr_i64 ?_) rfl ?_; (focus (first | omega | (have := u8_lt ‹_›; omega))))
          | (refine W_conv_i Tryd.underlying5 Tryd.underlying3 rfl rfl rfl ?_)
        refine W_assign rfl rfl ?_
        refine W_nil ?_
        refine N_then_k ?_
        refine K_quiet hm hp (by kernel_rfl) ?_
        clear hp
        refine Wq_val (fun w hp => R_move rfl) rfl ?_
        refine Wq_val (fun w hp => R_move rfl) rfl ?_
        refine Wq_val (fun w hp => R_move rfl) rfl ?_
        first
          | (refine Wq_val (fun w hp => R_quo rfl rfl ?_ (quo_nn ?_ (wr_i64 ?_))) rfl ?_; (focus (omega)); (focus (omega)); (focus (omega)))
          | (refine Wq_val (fun w hp => R_quo rfl rfl ?_ rfl) rfl ?_; (focus (omega)))
        refine Wq_val (fun w hp => R_move rfl) rfl ?_
        first
          | (refine Wq_val (fun w hp => R_quo rfl rfl ?_ (quo_nn ?_ (wr_i64 ?_))) rfl ?_; (focus (omega)); (focus (omega)); (focus (omega)))
          | (refine Wq_val (fun w hp => R_quo rfl rfl ?_ rfl) rfl ?_; (focus (omega)))
        first
          | (refine Wq_val (fun w hp => R_add rfl rfl (wr_i64 ?_)) rfl ?_; (focus (omega)))
          | (refine Wq_val (fun w hp => R_add rfl rfl rfl) rfl ?_)
        refine Wq_val (fun w hp => R_slice_slh Tryd.underlying9 rfl rfl rfl ?_ ?_ ?_) rfl ?_
        (focus (first | omega | (simp; omega) | (simp only [List.length_drop, List.length_take, List.length_append]; omega)))
        (focus (first | omega | (simp; omega) | (simp only [List.length_drop, List.length_take, List.length_append]; omega)))
        (focus (first | omega | (simp; omega) | (simp only [List.length_drop, List.length_take, List.length_append]; omega)))
        refine Wq_val (fun w hp => R_sadd rfl rfl ?_) rfl ?_
        (focus (first | omega | (simp only [List.length_append, List.length_cons, List.length_nil, List.length_drop, List.length_take] at *; omega) | (simp; omega)))
        refine Wq_val (fun w hp => R_move rfl) rfl ?_
        refine Wq_val (fun w hp => R_move rfl) rfl ?_
        first
          | (refine Wq_val (fun w hp => R_rem rfl rfl ?_ (rem_nn ?_)) rfl ?_; (focus (omega)); (focus (omega)))
          | (refine Wq_val (fun w hp => R_rem rfl rfl ?_ rfl) rfl ?_; (focus (omega)))
        refine Wq_val (fun w hp => R_move rfl) rfl ?_
        first
          | (refine Wq_val (fun w hp => R_rem rfl rfl ?_ (rem_nn ?_)) rfl ?_; (focus (omega)); (focus (omega)))
          | (refine Wq_val (fun w hp => R_rem rfl rfl ?_ rfl) rfl ?_; (focus (omega)))
        first
          | (refine Wq_val (fun w hp => R_add rfl rfl (wr_i64 ?_)) rfl ?_; (focus (omega)))
          | (refine Wq_val (fun w hp => R_add rfl rfl rfl) rfl ?_)
        refine Wq_val (fun w hp => R_slice_slh Tryd.underlying9 rfl rfl rfl ?_ ?_ ?_) rfl ?_
        (focus (first | omega | (simp; omega) | (simp only [List.length_drop, List.length_take, List.length_append]; omega)))
        (focus (first | omega | (simp; omega) | (simp only [List.length_drop, List.length_take, List.length_append]; omega)))
        (focus (first | omega | (simp; omega) | (simp only [List.length_drop, List.length_take, List.length_append]; omega)))
        refine Wq_val (fun w hp => R_sadd rfl rfl ?_) rfl ?_
        (focus (first | omega | (simp only [List.length_append, List.length_cons, List.length_nil, List.length_drop, List.length_take] at *; omega) | (simp; omega)))
        refine Wq_val (fun w hp => R_assign rfl) rfl ?_
        refine Wq_end ?_
        intro w hp
        refine N_block_normal ?_
        refine N_then_k ?_
        refine K_region ?_
        refine W_move rfl rfl ?_
        first
          | (refine W_add rfl rfl (wr_i64 ?_) rfl ?_; (focus (omega)))
          | (refine W_add rfl rfl rfl rfl ?_)
        refine W_assign rfl rfl ?_
        refine W_nil ?_
        refine N_again (i + 1) (sub_end ?_ ?_) ?_ ?_
        · repeat' (first | exact sub_lst_nil (sub_nil _) | refine sub_lst rfl ?_ | (refine sub_lst_eq rfl ?_ ?_; · first | rfl | ((refine congrArg strV ?_; rw [hexL_next hx, ← dgt_cut (show x.toNat / 16 < 16 by omega), ← dgt_cut (show x.toNat % 16 < 16 by omega)]; rfl)) | (simp; done) | (congr 1; omega)))
        · repeat' (first | exact sub_refl _ | exact sub_strip _ _ | refine sub_s_cons rfl ?_ | refine sub_s_lst rfl ?_ | refine sub_s_strip rfl ?_)
        · exact ⟨hp, hlt⟩
        · omega)
     · try (exfalso; first | omega | (simp only [Bool.false_eq_true, reduceCtorEq] at hc1; done) | (refine absurd hc1 ?_; with_reducible assumption) | (refine absurd ?_ hc1; with_reducible assumption))
       all_goals (
        refine K_exit ?_
        refine N_then_exit ?_
        refine N_then_exit ?_
        refine N_block_exit ?_
        refine N_then_k ?_
        refine K_seq ?_
        refine K_region ?_
        refine W_move rfl rfl ?_
        refine W_assign rfl rfl ?_
        refine W_nil ?_
        refine N_then_k ?_
        refine K_ret ?_
        refine N_done1 (.inr rfl) rfl rfl ?_
        obtain rfl : i = 32 := by omega
        refine ⟨_, rfl, ?_, hp.nil⟩
        rw [List.take_of_length_le (by omega)]))

end Go.Proofs.YtbdmaiipohfnaaaDoor
