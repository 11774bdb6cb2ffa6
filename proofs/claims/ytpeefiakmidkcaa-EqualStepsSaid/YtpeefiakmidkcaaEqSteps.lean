/-
  Law EqualSteps, walked: whatever the texts, the law returns true and turns nothing that was there.
-/
import Derived.Test.YtpeefiakmidkcaaEqLaws
namespace Go.Proofs.Ytpeefiakmidkcaa
open Go.Sx Go.RowKit
set_option linter.unusedVariables false
set_option linter.unusedSimpArgs false
set_option maxRecDepth 100000

theorem EqualSteps_walk (a b : List UInt8) (w : World) : PureAt Try.prog 4 [.string ⟨a.toArray⟩, .string ⟨b.toArray⟩] (.bool true) w := by
  refine PureF.at (PureF.intro go4 Try.func4 rfl rfl fun w0 hp => ?_) w
  refine K_seq ?_
  refine K_region ?_
  refine W_assign rfl rfl ?_
  refine W_nil ?_
  refine N_then_k ?_
  refine K_seq ?_
  refine K_seq ?_
  refine K_region ?_
  refine W_pcall hp rfl (awake_spec) rfl ?_
  clear hp; intro w hp
  first
    | (refine W_not_t rfl rfl ?_)
    | (refine W_not_f rfl rfl ?_)
    | (refine W_not rfl rfl ?_)
  refine W_move rfl rfl ?_
  first
    | refine W_guard_lit_t rfl ?_
    | refine W_guard_lit_f rfl ?_
    | refine W_guard_split rfl rfl rfl (fun hg1 => ?_) (fun hg1 => ?_)
  all_goals (
    try simp only [decide_eq_true_eq, decide_eq_false_iff_not, Bool.not_eq_true', Bool.not_eq_false', Bool.and_eq_true, Bool.or_eq_true, Bool.and_eq_false_iff, Bool.or_eq_false_iff, Bool.false_eq_true, Bool.true_eq_false, reduceCtorEq] at hg1
    try (exfalso; first | contradiction | omega))
  all_goals (
    first
      | (refine W_guard_yes rfl ?_
         refine W_move rfl rfl ?_)
      | (refine W_guard_no rfl rfl rfl ?_)
    first
      | (refine W_guard_yes rfl ?_
         refine W_len_s Try.underlying9 rfl rfl ?_)
      | (refine W_guard_no rfl rfl rfl ?_)
    first
      | (refine W_guard_yes rfl ?_
         first
           | (refine W_gtr_t rfl rfl ?_ rfl ?_; (focus (omega)))
           | (refine W_gtr_f rfl rfl ?_ rfl ?_; (focus (omega)))
           | (refine W_gtr rfl rfl rfl ?_))
      | (refine W_guard_no rfl rfl rfl ?_)
    first
      | (refine W_pick_t rfl rfl rfl ?_)
      | (refine W_pick_f rfl rfl rfl ?_)
      | (refine W_pick_b rfl rfl rfl rfl ?_)
    refine W_move rfl rfl ?_
    first
      | refine W_guard_lit_t rfl ?_
      | refine W_guard_lit_f rfl ?_
      | refine W_guard_split rfl rfl rfl (fun hg2 => ?_) (fun hg2 => ?_)
    all_goals (
      try simp only [decide_eq_true_eq, decide_eq_false_iff_not, Bool.not_eq_true', Bool.not_eq_false', Bool.and_eq_true, Bool.or_eq_true, Bool.and_eq_false_iff, Bool.or_eq_false_iff, Bool.false_eq_true, Bool.true_eq_false, reduceCtorEq] at hg2
      try (exfalso; first | contradiction | omega))
    all_goals (
      first
        | (refine W_guard_yes rfl ?_
           refine W_move rfl rfl ?_)
        | (refine W_guard_no rfl rfl rfl ?_)
      first
        | (refine W_guard_yes rfl ?_
           refine W_len_s Try.underlying9 rfl rfl ?_)
        | (refine W_guard_no rfl rfl rfl ?_)
      first
        | (refine W_guard_yes rfl ?_
           first
             | (refine W_gtr_t rfl rfl ?_ rfl ?_; (focus (omega)))
             | (refine W_gtr_f rfl rfl ?_ rfl ?_; (focus (omega)))
             | (refine W_gtr rfl rfl rfl ?_))
        | (refine W_guard_no rfl rfl rfl ?_)
      first
        | (refine W_pick_t rfl rfl rfl ?_)
        | (refine W_pick_f rfl rfl rfl ?_)
        | (refine W_pick_b rfl rfl rfl rfl ?_)
      refine W_nil ?_
      refine N_then_k ?_
      refine K_cond rfl (fun hc3 => ?_) (fun hc3 => ?_)
      · try simp only [decide_eq_true_eq, decide_eq_false_iff_not, Bool.not_eq_true', Bool.not_eq_false', Bool.and_eq_true, Bool.or_eq_true, Bool.and_eq_false_iff, Bool.or_eq_false_iff, Bool.false_eq_true, Bool.true_eq_false, reduceCtorEq] at hc3
        try (exfalso; first | contradiction | omega)
        all_goals (
          refine K_seq ?_
          refine K_region ?_
          refine W_pcall hp rfl (awake_spec) rfl ?_
          clear hp; intro w hp
          refine W_assign rfl rfl ?_
          refine W_nil ?_
          refine N_then_k ?_
          refine K_ret ?_
          refine N_then_ret ?_
          refine N_done1 (.inr rfl) rfl rfl ?_
          exact ⟨_, rfl, rfl, hp.nil⟩)
      · try simp only [decide_eq_true_eq, decide_eq_false_iff_not, Bool.not_eq_true', Bool.not_eq_false', Bool.and_eq_true, Bool.or_eq_true, Bool.and_eq_false_iff, Bool.or_eq_false_iff, Bool.false_eq_true, Bool.true_eq_false, reduceCtorEq] at hc3
        try (exfalso; first | contradiction | omega)
        all_goals (
          refine K_skip ?_
          refine N_then_k ?_
          refine K_seq ?_
          refine K_region ?_
          refine W_assign rfl rfl ?_
          refine W_nil ?_
          refine N_then_k ?_
          refine K_seq ?_
          refine K_seq ?_
          refine K_region ?_
          refine W_assign rfl rfl ?_
          refine W_nil ?_
          refine N_then_k ?_
          refine K_block ?_
          refine K_loop (σ := Nat) [5, 6, 21, 22, 23, 24, 25, 26, 27, 28]
              (fun k => [(6, .int .i64 k), (5, .string ⟨(List.replicate k (120 : UInt8)).toArray⟩)])
              (fun k w => Hp w0 [] [] w ∧ k ≤ a.length)
              (fun k => a.length - k) (0) ?_ ?_ ?_
          · repeat' (first | exact sub_lst_nil (sub_nil _) | refine sub_lst rfl ?_ | (refine sub_lst_eq rfl ?_ ?_; · first | rfl | (simp; done) | (congr 1; omega)))
          · exact ⟨hp, Nat.zero_le _⟩
          · intro k w hJ
            clear hp
            obtain ⟨hp, hle⟩ := hJ
            rcases (Nat.lt_or_ge k a.length).imp id (fun h => Nat.le_antisymm hle h) with hlt | rfl
            all_goals (
              refine K_seq ?_
              refine K_seq ?_
              refine K_region ?_
              refine W_move rfl rfl ?_
              refine W_move rfl rfl ?_
              refine W_len_s Try.underlying9 rfl rfl ?_
              first
                | (refine W_lss_t rfl rfl ?_ rfl ?_; (focus (omega)))
                | (refine W_lss_f rfl rfl ?_ rfl ?_; (focus (omega)))
                | (refine W_lss rfl rfl rfl ?_)
              refine W_nil ?_
              refine N_then_k ?_
              refine K_cond rfl (fun hc4 => ?_) (fun hc4 => ?_)
              · try simp only [decide_eq_true_eq, decide_eq_false_iff_not, Bool.not_eq_true', Bool.not_eq_false', Bool.and_eq_true, Bool.or_eq_true, Bool.and_eq_false_iff, Bool.or_eq_false_iff, Bool.false_eq_true, Bool.true_eq_false, reduceCtorEq] at hc4
                try (exfalso; first | contradiction | omega)
                all_goals (
                  refine K_skip ?_
                  refine N_then_k ?_
                  refine K_seq ?_
                  refine K_block ?_
                  refine K_region ?_
                  refine W_move rfl rfl ?_
                  refine W_sadd rfl rfl ?_ rfl ?_
                  (focus (first | (simp only [List.length_append, List.length_cons, List.length_nil, List.length_drop, List.length_take] at *; omega) | (simp; omega)))
                  refine W_assign rfl rfl ?_
                  refine W_nil ?_
                  refine N_block_normal ?_
                  refine N_then_k ?_
                  refine K_region ?_
                  refine W_move rfl rfl ?_
                  first
                    | (refine W_add rfl rfl (wr_i64 ?_) rfl ?_; (focus (omega)))
                    | (refine W_add rfl rfl rfl rfl ?_)
                  refine W_assign rfl rfl ?_
                  refine W_nil ?_
                  refine N_again (k + 1) (sub_end ?_ ?_) ?_ ?_
                  · refine sub_lst rfl (sub_lst_eq rfl ?_ (sub_lst_nil (sub_nil _)))
                    rw [List.replicate_succ']
                  · repeat' (first | exact sub_refl _ | exact sub_strip _ _ | refine sub_s_cons rfl ?_ | refine sub_s_lst rfl ?_ | refine sub_s_strip rfl ?_)
                  · exact ⟨hp, hlt⟩
                  · omega)
              · try simp only [decide_eq_true_eq, decide_eq_false_iff_not, Bool.not_eq_true', Bool.not_eq_false', Bool.and_eq_true, Bool.or_eq_true, Bool.and_eq_false_iff, Bool.or_eq_false_iff, Bool.false_eq_true, Bool.true_eq_false, reduceCtorEq] at hc4
                try (exfalso; first | contradiction | omega)
                all_goals (
                  refine K_exit ?_
                  refine N_then_exit ?_
                  refine N_then_exit ?_
                  refine N_block_exit ?_
                  refine N_then_k ?_
                  refine K_seq ?_
                  refine K_region ?_
                  refine W_move rfl rfl ?_
                  refine W_len_s Try.underlying9 rfl rfl ?_
                  refine W_move rfl rfl ?_
                  refine W_len_s Try.underlying9 rfl rfl ?_
                  refine W_max (r := ((max a.length b.length : Nat) : Int)) rfl rfl (by split <;> omega) rfl ?_
                  refine W_assign rfl rfl ?_
                  refine W_nil ?_
                  refine N_then_k ?_
                  refine K_seq ?_
                  refine K_region ?_
                  have hl : (List.replicate a.length (120 : UInt8)).length = a.length := List.length_replicate
                  refine W_move rfl rfl ?_
                  refine W_move rfl rfl ?_
                  refine W_pcall hp rfl ((steps_spec a b (by omega) (by omega))) rfl ?_
                  clear hp; intro w hp
                  refine W_move rfl rfl ?_
                  first
                    | (refine W_eql_t rfl rfl ?_ rfl ?_; (focus (omega)))
                    | (refine W_eql_f rfl rfl ?_ rfl ?_; (focus (omega)))
                    | (refine W_eql rfl rfl rfl ?_)
                  refine W_move rfl rfl ?_
                  first
                    | refine W_guard_lit_t rfl ?_
                    | refine W_guard_lit_f rfl ?_
                    | refine W_guard_split rfl rfl rfl (fun hg5 => ?_) (fun hg5 => ?_)
                  all_goals (
                    try simp only [decide_eq_true_eq, decide_eq_false_iff_not, Bool.not_eq_true', Bool.not_eq_false', Bool.and_eq_true, Bool.or_eq_true, Bool.and_eq_false_iff, Bool.or_eq_false_iff, Bool.false_eq_true, Bool.true_eq_false, reduceCtorEq] at hg5
                    try (exfalso; first | contradiction | omega))
                  all_goals (
                    first
                      | (refine W_guard_yes rfl ?_
                         refine W_move rfl rfl ?_)
                      | (refine W_guard_no rfl rfl rfl ?_)
                    first
                      | (refine W_guard_yes rfl ?_
                         refine W_move rfl rfl ?_)
                      | (refine W_guard_no rfl rfl rfl ?_)
                    first
                      | (refine W_guard_yes rfl ?_
                         refine W_pcall hp rfl ((steps_spec b a (by omega) (by omega))) rfl ?_
                         clear hp; intro w hp)
                      | (refine W_guard_no rfl rfl rfl ?_)
                    first
                      | (refine W_guard_yes rfl ?_
                         refine W_move rfl rfl ?_)
                      | (refine W_guard_no rfl rfl rfl ?_)
                    first
                      | (refine W_guard_yes rfl ?_
                         first
                           | (refine W_eql_t rfl rfl ?_ rfl ?_; (focus (omega)))
                           | (refine W_eql_f rfl rfl ?_ rfl ?_; (focus (omega)))
                           | (refine W_eql rfl rfl rfl ?_))
                      | (refine W_guard_no rfl rfl rfl ?_)
                    first
                      | (refine W_pick_t rfl rfl rfl ?_)
                      | (refine W_pick_f rfl rfl rfl ?_)
                      | (refine W_pick_b rfl rfl rfl rfl ?_)
                    refine W_move rfl rfl ?_
                    first
                      | refine W_guard_lit_t rfl ?_
                      | refine W_guard_lit_f rfl ?_
                      | refine W_guard_split rfl rfl rfl (fun hg6 => ?_) (fun hg6 => ?_)
                    all_goals (
                      try simp only [decide_eq_true_eq, decide_eq_false_iff_not, Bool.not_eq_true', Bool.not_eq_false', Bool.and_eq_true, Bool.or_eq_true, Bool.and_eq_false_iff, Bool.or_eq_false_iff, Bool.false_eq_true, Bool.true_eq_false, reduceCtorEq] at hg6
                      try (exfalso; first | contradiction | omega))
                    all_goals (
                      first
                        | (refine W_guard_yes rfl ?_
                           refine W_move rfl rfl ?_)
                        | (refine W_guard_no rfl rfl rfl ?_)
                      first
                        | (refine W_guard_yes rfl ?_
                           refine W_move rfl rfl ?_)
                        | (refine W_guard_no rfl rfl rfl ?_)
                      first
                        | (refine W_guard_yes rfl ?_
                           refine W_pcall hp rfl ((steps_spec (List.replicate a.length 120) b (by simp; omega) (by omega))) rfl ?_
                           clear hp; intro w hp)
                        | (refine W_guard_no rfl rfl rfl ?_)
                      first
                        | (refine W_guard_yes rfl ?_
                           refine W_move rfl rfl ?_)
                        | (refine W_guard_no rfl rfl rfl ?_)
                      first
                        | (refine W_guard_yes rfl ?_
                           first
                             | (refine W_eql_t rfl rfl ?_ rfl ?_; (focus (omega)))
                             | (refine W_eql_f rfl rfl ?_ rfl ?_; (focus (omega)))
                             | (refine W_eql rfl rfl rfl ?_))
                        | (refine W_guard_no rfl rfl rfl ?_)
                      first
                        | (refine W_pick_t rfl rfl rfl ?_)
                        | (refine W_pick_f rfl rfl rfl ?_)
                        | (refine W_pick_b rfl rfl rfl rfl ?_)
                      refine W_move rfl rfl ?_
                      first
                        | refine W_guard_lit_t rfl ?_
                        | refine W_guard_lit_f rfl ?_
                        | refine W_guard_split rfl rfl rfl (fun hg7 => ?_) (fun hg7 => ?_)
                      all_goals (
                        try simp only [decide_eq_true_eq, decide_eq_false_iff_not, Bool.not_eq_true', Bool.not_eq_false', Bool.and_eq_true, Bool.or_eq_true, Bool.and_eq_false_iff, Bool.or_eq_false_iff, Bool.false_eq_true, Bool.true_eq_false, reduceCtorEq] at hg7
                        try (exfalso; first | contradiction | omega))
                      all_goals (
                        first
                          | (refine W_guard_yes rfl ?_
                             refine W_move rfl rfl ?_)
                          | (refine W_guard_no rfl rfl rfl ?_)
                        first
                          | (refine W_guard_yes rfl ?_
                             refine W_move rfl rfl ?_)
                          | (refine W_guard_no rfl rfl rfl ?_)
                        first
                          | (refine W_guard_yes rfl ?_
                             refine W_pcall hp rfl ((steps_spec a a (by omega) (by omega))) rfl ?_
                             clear hp; intro w hp)
                          | (refine W_guard_no rfl rfl rfl ?_)
                        first
                          | (refine W_guard_yes rfl ?_
                             refine W_move rfl rfl ?_)
                          | (refine W_guard_no rfl rfl rfl ?_)
                        first
                          | (refine W_guard_yes rfl ?_
                             refine W_len_s Try.underlying9 rfl rfl ?_)
                          | (refine W_guard_no rfl rfl rfl ?_)
                        first
                          | (refine W_guard_yes rfl ?_
                             first
                               | (refine W_eql_t rfl rfl ?_ rfl ?_; (focus (omega)))
                               | (refine W_eql_f rfl rfl ?_ rfl ?_; (focus (omega)))
                               | (refine W_eql rfl rfl rfl ?_))
                          | (refine W_guard_no rfl rfl rfl ?_)
                        first
                          | (refine W_pick_t rfl rfl rfl ?_)
                          | (refine W_pick_f rfl rfl rfl ?_)
                          | (refine W_pick_b rfl rfl rfl rfl ?_)
                        refine W_assign rfl rfl ?_
                        refine W_nil ?_
                        refine N_then_k ?_
                        refine K_ret ?_
                        refine N_done1 (.inr rfl) rfl rfl ?_
                        exact ⟨_, rfl, rfl, hp.nil⟩))))))))

end Go.Proofs.Ytpeefiakmidkcaa
