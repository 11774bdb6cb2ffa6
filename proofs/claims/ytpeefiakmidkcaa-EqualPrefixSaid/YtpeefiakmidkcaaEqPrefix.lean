/-
  Law EqualPrefix, walked: whatever the text and the number, the law returns true and turns nothing that was there.
-/
import Derived.Test.YtpeefiakmidkcaaEqLaws
namespace Go.Proofs.Ytpeefiakmidkcaa
open Go.Sx Go.RowKit
set_option linter.unusedVariables false
set_option linter.unusedSimpArgs false
set_option maxRecDepth 100000

theorem EqualPrefix_walk (a : List UInt8) (c : Int) (h0 : 0 ≤ c) (h1 : c ≤ 255) (w : World) : PureAt Try.prog 6 [.string ⟨a.toArray⟩, .int .u8 c] (.bool true) w := by
  obtain ⟨m, hm⟩ : ∃ m : Nat, (m : Int) = c % 10 := ⟨(c % 10).toNat, by omega⟩
  have hm10 : m < 10 := by omega
  refine PureF.at (PureF.intro go6 Try.func6 rfl rfl fun w0 hp => ?_) w
  refine K_seq ?_
  refine K_region ?_
  refine W_assign rfl rfl ?_
  refine W_nil ?_
  refine N_then_k ?_
  refine K_seq ?_
  refine K_seq ?_
  refine K_region ?_
  refine W_pcall hp rfl (awake_spec) rfl ?_
  clear hp; intro w hp
  first
    | (refine W_not_t rfl rfl ?_)
    | (refine W_not_f rfl rfl ?_)
    | (refine W_not rfl rfl ?_)
  refine W_move rfl rfl ?_
  first
    | refine W_guard_lit_t rfl ?_
    | refine W_guard_lit_f rfl ?_
    | refine W_guard_split rfl rfl rfl (fun hg1 => ?_) (fun hg1 => ?_)
  all_goals (
    try simp only [decide_eq_true_eq, decide_eq_false_iff_not, Bool.not_eq_true', Bool.not_eq_false', Bool.and_eq_true, Bool.or_eq_true, Bool.and_eq_false_iff, Bool.or_eq_false_iff, Bool.false_eq_true, Bool.true_eq_false, reduceCtorEq] at hg1
    try (exfalso; first | contradiction | omega))
  all_goals (
    first
      | (refine W_guard_yes rfl ?_
         refine W_move rfl rfl ?_)
      | (refine W_guard_no rfl rfl rfl ?_)
    first
      | (refine W_guard_yes rfl ?_
         refine W_len_s Try.underlying9 rfl rfl ?_)
      | (refine W_guard_no rfl rfl rfl ?_)
    first
      | (refine W_guard_yes rfl ?_
         first
           | (refine W_gtr_t rfl rfl ?_ rfl ?_; (focus (omega)))
           | (refine W_gtr_f rfl rfl ?_ rfl ?_; (focus (omega)))
           | (refine W_gtr rfl rfl rfl ?_))
      | (refine W_guard_no rfl rfl rfl ?_)
    first
      | (refine W_pick_t rfl rfl rfl ?_)
      | (refine W_pick_f rfl rfl rfl ?_)
      | (refine W_pick_b rfl rfl rfl rfl ?_)
    refine W_nil ?_
    refine N_then_k ?_
    refine K_cond rfl (fun hc2 => ?_) (fun hc2 => ?_)
    · try simp only [decide_eq_true_eq, decide_eq_false_iff_not, Bool.not_eq_true', Bool.not_eq_false', Bool.and_eq_true, Bool.or_eq_true, Bool.and_eq_false_iff, Bool.or_eq_false_iff, Bool.false_eq_true, Bool.true_eq_false, reduceCtorEq] at hc2
      try (exfalso; first | contradiction | omega)
      all_goals (
        refine K_seq ?_
        refine K_region ?_
        refine W_pcall hp rfl (awake_spec) rfl ?_
        clear hp; intro w hp
        refine W_assign rfl rfl ?_
        refine W_nil ?_
        refine N_then_k ?_
        refine K_ret ?_
        refine N_then_ret ?_
        refine N_done1 (.inr rfl) rfl rfl ?_
        exact ⟨_, rfl, rfl, hp.nil⟩)
    · try simp only [decide_eq_true_eq, decide_eq_false_iff_not, Bool.not_eq_true', Bool.not_eq_false', Bool.and_eq_true, Bool.or_eq_true, Bool.and_eq_false_iff, Bool.or_eq_false_iff, Bool.false_eq_true, Bool.true_eq_false, reduceCtorEq] at hc2
      try (exfalso; first | contradiction | omega)
      all_goals (
        refine K_skip ?_
        refine N_then_k ?_
        refine K_seq ?_
        refine K_region ?_
        refine W_move rfl rfl ?_
        refine W_sadd rfl rfl ?_ rfl ?_
        (focus (first | (simp only [List.length_append, List.length_cons, List.length_nil, List.length_drop, List.length_take] at *; omega) | (simp; omega)))
        refine W_assign rfl rfl ?_
        refine W_nil ?_
        refine N_then_k ?_
        refine K_seq ?_
        refine K_seq ?_
        refine K_region ?_
        refine W_assign rfl rfl ?_
        refine W_nil ?_
        refine N_then_k ?_
        refine K_block ?_
        refine K_loop (σ := Nat) [5, 6, 17, 18, 19, 20, 21, 22, 23, 24, 25]
            (fun k => [(6, .int .i64 k), (5, .string ⟨(a ++ List.replicate (k + 1) (0 : UInt8)).toArray⟩)])
            (fun k w => Hp w0 [] [] w ∧ k ≤ m)
            (fun k => m - k) (0) ?_ ?_ ?_
        · repeat' (first | exact sub_lst_nil (sub_nil _) | refine sub_lst rfl ?_ | (refine sub_lst_eq rfl ?_ ?_; · first | rfl | (simp; done) | (congr 1; omega)))
        · exact ⟨hp, Nat.zero_le _⟩
        · intro k w hJ
          clear hp
          obtain ⟨hp, hle⟩ := hJ
          rcases (Nat.lt_or_ge k m).imp id (fun h => (Nat.le_antisymm hle h).symm) with hlt | rfl
          all_goals (
            refine K_seq ?_
            refine K_seq ?_
            refine K_region ?_
            refine W_move rfl rfl ?_
            refine W_move rfl rfl ?_
            first
              | (refine W_conv_i Try.underlying5 Try.underlying3 rfl (wr_i64 ?_) rfl ?_; (focus (first | omega | (have := u8_lt ‹_›; omega))))
              | (refine W_conv_i Try.underlying5 Try.underlying3 rfl rfl rfl ?_)
            first
              | (refine W_rem rfl rfl ?_ (rem_nn ?_) rfl ?_; (focus (omega)); (focus (omega)))
              | (refine W_rem rfl rfl ?_ rfl rfl ?_; (focus (omega)))
            first
              | (refine W_lss_t rfl rfl ?_ rfl ?_; (focus (omega)))
              | (refine W_lss_f rfl rfl ?_ rfl ?_; (focus (omega)))
              | (refine W_lss rfl rfl rfl ?_)
            refine W_nil ?_
            refine N_then_k ?_
            refine K_cond rfl (fun hc3 => ?_) (fun hc3 => ?_)
            · try simp only [decide_eq_true_eq, decide_eq_false_iff_not, Bool.not_eq_true', Bool.not_eq_false', Bool.and_eq_true, Bool.or_eq_true, Bool.and_eq_false_iff, Bool.or_eq_false_iff, Bool.false_eq_true, Bool.true_eq_false, reduceCtorEq] at hc3
              try (exfalso; first | contradiction | omega)
              all_goals (
                refine K_skip ?_
                refine N_then_k ?_
                refine K_seq ?_
                refine K_block ?_
                refine K_region ?_
                refine W_move rfl rfl ?_
                refine W_sadd rfl rfl ?_ rfl ?_
                (focus (first | (simp only [List.length_append, List.length_cons, List.length_nil, List.length_drop, List.length_take] at *; omega) | (simp; omega)))
                refine W_assign rfl rfl ?_
                refine W_nil ?_
                refine N_block_normal ?_
                refine N_then_k ?_
                refine K_region ?_
                refine W_move rfl rfl ?_
                first
                  | (refine W_add rfl rfl (wr_i64 ?_) rfl ?_; (focus (omega)))
                  | (refine W_add rfl rfl rfl rfl ?_)
                refine W_assign rfl rfl ?_
                refine W_nil ?_
                refine N_again (k + 1) (sub_end ?_ ?_) ?_ ?_
                · refine sub_lst rfl (sub_lst_eq rfl ?_ (sub_lst_nil (sub_nil _)))
                  rw [List.replicate_succ' (n := k + 1), List.append_assoc]
                · repeat' (first | exact sub_refl _ | exact sub_strip _ _ | refine sub_s_cons rfl ?_ | refine sub_s_lst rfl ?_ | refine sub_s_strip rfl ?_)
                · exact ⟨hp, hlt⟩
                · omega)
            · try simp only [decide_eq_true_eq, decide_eq_false_iff_not, Bool.not_eq_true', Bool.not_eq_false', Bool.and_eq_true, Bool.or_eq_true, Bool.and_eq_false_iff, Bool.or_eq_false_iff, Bool.false_eq_true, Bool.true_eq_false, reduceCtorEq] at hc3
              try (exfalso; first | contradiction | omega)
              all_goals (
                refine K_exit ?_
                refine N_then_exit ?_
                refine N_then_exit ?_
                refine N_block_exit ?_
                refine N_then_k ?_
                refine K_seq ?_
                refine K_region ?_
                have hl : (a ++ List.replicate (m + 1) 0).length = a.length + (m + 1) := by simp
                have hne : a ≠ (a ++ List.replicate (m + 1) 0) := fun e => by have := congrArg List.length e; rw [hl] at this; omega
                refine W_move rfl rfl ?_
                refine W_move rfl rfl ?_
                refine W_pcall hp rfl ((equal_spec a (a ++ List.replicate (m + 1) 0) (by omega) (by omega)).eq (r' := .bool false) (congrArg Value.bool (decide_eq_false hne))) rfl ?_
                clear hp; intro w hp
                first
                  | (refine W_not_t rfl rfl ?_)
                  | (refine W_not_f rfl rfl ?_)
                  | (refine W_not rfl rfl ?_)
                refine W_move rfl rfl ?_
                first
                  | refine W_guard_lit_t rfl ?_
                  | refine W_guard_lit_f rfl ?_
                  | refine W_guard_split rfl rfl rfl (fun hg4 => ?_) (fun hg4 => ?_)
                all_goals (
                  try simp only [decide_eq_true_eq, decide_eq_false_iff_not, Bool.not_eq_true', Bool.not_eq_false', Bool.and_eq_true, Bool.or_eq_true, Bool.and_eq_false_iff, Bool.or_eq_false_iff, Bool.false_eq_true, Bool.true_eq_false, reduceCtorEq] at hg4
                  try (exfalso; first | contradiction | omega))
                all_goals (
                  first
                    | (refine W_guard_yes rfl ?_
                       refine W_move rfl rfl ?_)
                    | (refine W_guard_no rfl rfl rfl ?_)
                  first
                    | (refine W_guard_yes rfl ?_
                       refine W_move rfl rfl ?_)
                    | (refine W_guard_no rfl rfl rfl ?_)
                  first
                    | (refine W_guard_yes rfl ?_
                       refine W_pcall hp rfl ((equal_spec (a ++ List.replicate (m + 1) 0) a (by omega) (by omega)).eq (r' := .bool false) (congrArg Value.bool (decide_eq_false (Ne.symm hne)))) rfl ?_
                       clear hp; intro w hp)
                    | (refine W_guard_no rfl rfl rfl ?_)
                  first
                    | (refine W_guard_yes rfl ?_
                       first
                         | (refine W_not_t rfl rfl ?_)
                         | (refine W_not_f rfl rfl ?_)
                         | (refine W_not rfl rfl ?_))
                    | (refine W_guard_no rfl rfl rfl ?_)
                  first
                    | (refine W_pick_t rfl rfl rfl ?_)
                    | (refine W_pick_f rfl rfl rfl ?_)
                    | (refine W_pick_b rfl rfl rfl rfl ?_)
                  refine W_move rfl rfl ?_
                  first
                    | refine W_guard_lit_t rfl ?_
                    | refine W_guard_lit_f rfl ?_
                    | refine W_guard_split rfl rfl rfl (fun hg5 => ?_) (fun hg5 => ?_)
                  all_goals (
                    try simp only [decide_eq_true_eq, decide_eq_false_iff_not, Bool.not_eq_true', Bool.not_eq_false', Bool.and_eq_true, Bool.or_eq_true, Bool.and_eq_false_iff, Bool.or_eq_false_iff, Bool.false_eq_true, Bool.true_eq_false, reduceCtorEq] at hg5
                    try (exfalso; first | contradiction | omega))
                  all_goals (
                    first
                      | (refine W_guard_yes rfl ?_
                         refine W_move rfl rfl ?_)
                      | (refine W_guard_no rfl rfl rfl ?_)
                    first
                      | (refine W_guard_yes rfl ?_
                         refine W_move rfl rfl ?_)
                      | (refine W_guard_no rfl rfl rfl ?_)
                    first
                      | (refine W_guard_yes rfl ?_
                         refine W_pcall hp rfl ((equal_spec (a ++ List.replicate (m + 1) 0) (a ++ List.replicate (m + 1) 0) (by omega) (by omega)).eq (r' := .bool true) (congrArg Value.bool (decide_eq_true rfl))) rfl ?_
                         clear hp; intro w hp)
                      | (refine W_guard_no rfl rfl rfl ?_)
                    first
                      | (refine W_pick_t rfl rfl rfl ?_)
                      | (refine W_pick_f rfl rfl rfl ?_)
                      | (refine W_pick_b rfl rfl rfl rfl ?_)
                    refine W_move rfl rfl ?_
                    first
                      | refine W_guard_lit_t rfl ?_
                      | refine W_guard_lit_f rfl ?_
                      | refine W_guard_split rfl rfl rfl (fun hg6 => ?_) (fun hg6 => ?_)
                    all_goals (
                      try simp only [decide_eq_true_eq, decide_eq_false_iff_not, Bool.not_eq_true', Bool.not_eq_false', Bool.and_eq_true, Bool.or_eq_true, Bool.and_eq_false_iff, Bool.or_eq_false_iff, Bool.false_eq_true, Bool.true_eq_false, reduceCtorEq] at hg6
                      try (exfalso; first | contradiction | omega))
                    all_goals (
                      first
                        | (refine W_guard_yes rfl ?_
                           refine W_move rfl rfl ?_)
                        | (refine W_guard_no rfl rfl rfl ?_)
                      first
                        | (refine W_guard_yes rfl ?_
                           refine W_move rfl rfl ?_)
                        | (refine W_guard_no rfl rfl rfl ?_)
                      first
                        | (refine W_guard_yes rfl ?_
                           refine W_pcall hp rfl ((steps_spec a (a ++ List.replicate (m + 1) 0) (by omega) (by omega))) rfl ?_
                           clear hp; intro w hp)
                        | (refine W_guard_no rfl rfl rfl ?_)
                      first
                        | (refine W_guard_yes rfl ?_
                           refine W_move rfl rfl ?_)
                        | (refine W_guard_no rfl rfl rfl ?_)
                      first
                        | (refine W_guard_yes rfl ?_
                           refine W_len_s Try.underlying9 rfl rfl ?_)
                        | (refine W_guard_no rfl rfl rfl ?_)
                      first
                        | (refine W_guard_yes rfl ?_
                           first
                             | (refine W_eql_t rfl rfl ?_ rfl ?_; (focus (omega)))
                             | (refine W_eql_f rfl rfl ?_ rfl ?_; (focus (omega)))
                             | (refine W_eql rfl rfl rfl ?_))
                        | (refine W_guard_no rfl rfl rfl ?_)
                      first
                        | (refine W_pick_t rfl rfl rfl ?_)
                        | (refine W_pick_f rfl rfl rfl ?_)
                        | (refine W_pick_b rfl rfl rfl rfl ?_)
                      refine W_assign rfl rfl ?_
                      refine W_nil ?_
                      refine N_then_k ?_
                      refine K_ret ?_
                      refine N_done1 (.inr rfl) rfl rfl ?_
                      exact ⟨_, rfl, rfl, hp.nil⟩)))))))

end Go.Proofs.Ytpeefiakmidkcaa
