/-
  The laws DecimalInverse and DecimalSums, walked.
-/
import Derived.Test.YthkdgfflgamegaaDoorLaws
namespace Go.Proofs.YthkdgfflgamegaaDoor
open Go.Sx Go.RowKit
set_option linter.unusedVariables false
set_option linter.unusedSimpArgs false
set_option maxRecDepth 100000

theorem numV_append (b : Int) (s t : List UInt8) : numV b (s ++ t) = t.foldl (fun n c => n * b + dig b c) (numV b s) := by simp [numV]
theorem dig_digit {m : Nat} (h : m < 10) : dig 10 (UInt8.ofNat (48 + m)) = m := by
  rw [dig_10, dig_ofNat h, if_pos (by unfold DigitP; omega)]; omega
theorem textN_num (n : Nat) : numV 10 (textN n) = n ∧ ∀ c ∈ textN n, 0 ≤ dig 10 c := by
  induction n using Nat.strongRecOn with
  | _ n ih =>
    by_cases h : n < 10
    · rw [textN_lt h]
      have := dig_digit h
      generalize UInt8.ofNat (48 + n) = cd at this ⊢
      refine ⟨by simp [numV, this], fun c hc => ?_⟩
      simp at hc; subst hc; omega
    · rw [textN_ge h]
      obtain ⟨h1, h2⟩ := ih (n / 10) (by omega)
      have := dig_digit (show n % 10 < 10 by omega)
      generalize UInt8.ofNat (48 + n % 10) = cd at this ⊢
      refine ⟨?_, fun c hc => ?_⟩
      · rw [numV_append, h1]; simp only [List.foldl_cons, List.foldl_nil, this]; omega
      · rcases List.mem_append.1 hc with hc | hc
        · exact h2 c hc
        · simp at hc; subst hc; omega
theorem zeros_num (m : Nat) (s : List UInt8) : numV 10 (List.replicate m 48 ++ s) = numV 10 s := by
  induction m with
  | zero => rfl
  | succ m ih => rw [List.replicate_succ, List.cons_append, ← ih]; rfl
theorem zeros_read (n m : Nat) (most : Int) : readR 10 most (List.replicate m 48 ++ textN n) = if most < n then (0, 413, 0) else ((n : Int), 0, 0) := by
  have hp := textN_pos n
  have hne : List.replicate m 48 ++ textN n ≠ [] := fun e => by have := congrArg List.length e; rw [List.length_append] at this; simp only [List.length_nil] at this; omega
  obtain ⟨h1, h2⟩ := textN_num n
  have hd : ∀ c ∈ List.replicate m 48 ++ textN n, 0 ≤ dig 10 c := by
    intro c hc
    rcases List.mem_append.1 hc with hc | hc
    · rw [List.eq_of_mem_replicate hc]; decide
    · exact h2 c hc
  split
  · exact readR_over hne hd (by rw [zeros_num, h1]; assumption)
  · rw [readR_ok hne hd (by rw [zeros_num, h1]; assumption), zeros_num, h1]

theorem DecimalInverse_walk (w0 : World) (hg : ErrT w0) (i x : Int) (hx : 0 ≤ x ∧ x ≤ 255) : PureAt Tryd.prog 5 [.int .i64 i, .int .u8 x] (.bool true) w0 := by
  obtain ⟨m, hm⟩ : ∃ m : Nat, (m : Int) = x % 30 := ⟨(x % 30).toNat, by omega⟩
  refine PureAt.intro go5 Tryd.func5 rfl rfl fun hp => ?_
  refine (fun (hk : ∀ w, Hp w0 [] [] w → K _ _ _ _ _ w) => hk w0 hp) fun w hp => ?_
  refine K_seq ?_
  refine K_region ?_
  refine W_assign rfl rfl ?_
  refine W_nil ?_
  refine N_then_k ?_
  refine K_seq ?_
  refine K_seq ?_
  refine K_region ?_
  refine W_acall hp rfl ((awake_spec w (hg.keep hp))) rfl ?_
  clear hp; intro w hp
  first
    | (refine W_not_t rfl rfl ?_)
    | (refine W_not_f rfl rfl ?_)
    | (refine W_not rfl rfl ?_)
  refine W_move rfl rfl ?_
  first
    | refine W_guard_lit_t rfl ?_
    | refine W_guard_lit_f rfl ?_
    | refine W_guard_lit_u rfl ?_
    | refine W_guard_split_d rfl rfl rfl (fun hg1 => ?_) (fun hg1 => ?_)
    | refine W_guard_split_n rfl rfl rfl (fun hg1 => ?_) (fun hg1 => ?_)
    | refine W_guard_split_nb rfl rfl rfl (fun hg1 => ?_) (fun hg1 => ?_)
    | refine W_guard_split rfl rfl rfl (fun hg1 => ?_) (fun hg1 => ?_)
  all_goals try (exfalso; first | omega | (simp only [Bool.false_eq_true, reduceCtorEq] at hg1; done) | (refine absurd hg1 ?_; with_reducible assumption) | (refine absurd ?_ hg1; with_reducible assumption))
  all_goals (
   first
     | (iterate 2 refine W_guard_no rfl rfl rfl ?_)
     | (iterate 2 refine W_guard_un rfl rfl ?_)
     | (refine W_guard_yes rfl ?_
        refine W_move rfl rfl ?_
        refine W_guard_yes rfl ?_
        first
          | (refine W_lss_t rfl rfl ?_ rfl ?_; (focus (omega)))
          | (refine W_lss_f rfl rfl ?_ rfl ?_; (focus (omega)))
          | (refine W_lss rfl rfl rfl ?_))
   first
     | (refine W_pick_t rfl rfl rfl ?_)
     | (refine W_pick_f rfl rfl rfl ?_)
     | (refine W_pick_b rfl rfl rfl rfl ?_)
   refine W_move rfl rfl ?_
   first
     | refine W_guard_lit_t rfl ?_
     | refine W_guard_lit_f rfl ?_
     | refine W_guard_lit_u rfl ?_
     | refine W_guard_split_d rfl rfl rfl (fun hg2 => ?_) (fun hg2 => ?_)
     | refine W_guard_split_n rfl rfl rfl (fun hg2 => ?_) (fun hg2 => ?_)
     | refine W_guard_split_nb rfl rfl rfl (fun hg2 => ?_) (fun hg2 => ?_)
     | refine W_guard_split rfl rfl rfl (fun hg2 => ?_) (fun hg2 => ?_)
   all_goals try (exfalso; first | omega | (simp only [Bool.false_eq_true, reduceCtorEq] at hg2; done) | (refine absurd hg2 ?_; with_reducible assumption) | (refine absurd ?_ hg2; with_reducible assumption))
   all_goals (
    first
      | (iterate 2 refine W_guard_no rfl rfl rfl ?_)
      | (iterate 2 refine W_guard_un rfl rfl ?_)
      | (refine W_guard_yes rfl ?_
         refine W_move rfl rfl ?_
         refine W_guard_yes rfl ?_
         first
           | (refine W_gtr_t rfl rfl ?_ rfl ?_; (focus (omega)))
           | (refine W_gtr_f rfl rfl ?_ rfl ?_; (focus (omega)))
           | (refine W_gtr rfl rfl rfl ?_))
    first
      | (refine W_pick_t rfl rfl rfl ?_)
      | (refine W_pick_f rfl rfl rfl ?_)
      | (refine W_pick_b rfl rfl rfl rfl ?_)
    refine W_nil ?_
    refine N_then_k ?_
    first
      | refine K_cond_d rfl (fun hc3 => ?_) (fun hc3 => ?_)
      | refine K_cond_n rfl (fun hc3 => ?_) (fun hc3 => ?_)
      | refine K_cond_nb rfl (fun hc3 => ?_) (fun hc3 => ?_)
      | refine K_cond_t rfl (fun hc3 => ?_) (fun hc3 => ?_)
    · try (exfalso; first | omega | (simp only [Bool.false_eq_true, reduceCtorEq] at hc3; done) | (refine absurd hc3 ?_; with_reducible assumption) | (refine absurd ?_ hc3; with_reducible assumption))
      all_goals (
       refine K_seq ?_
       refine K_region ?_
       refine W_acall hp rfl ((awake_spec w (hg.keep hp))) rfl ?_
       clear hp; intro w hp
       refine W_assign rfl rfl ?_
       refine W_nil ?_
       refine N_then_k ?_
       refine K_ret ?_
       refine N_then_ret ?_
       refine N_done1 (.inr rfl) rfl rfl ?_
       exact ⟨_, rfl, rfl, hp.nil⟩)
    · try (exfalso; first | omega | (simp only [Bool.false_eq_true, reduceCtorEq] at hc3; done) | (refine absurd hc3 ?_; with_reducible assumption) | (refine absurd ?_ hc3; with_reducible assumption))
      all_goals (
       refine K_skip ?_
       refine N_then_k ?_
       refine K_seq ?_
       refine K_region ?_
       obtain ⟨n, rfl⟩ := Int.eq_ofNat_of_zero_le (show 0 ≤ i by omega)
       have hn : n ≤ 4611686018427387904 := by omega
       have h19 := textN_19 hn
       refine W_move rfl rfl ?_
       refine W_pcall hp rfl (text_spec n hn) rfl ?_
       clear hp; intro w hp
       refine W_assign rfl rfl ?_
       refine W_nil ?_
       refine N_then_k ?_
       refine K_seq ?_
       refine K_region ?_
       refine W_move rfl rfl ?_
       refine W_assign rfl rfl ?_
       refine W_nil ?_
       refine N_then_k ?_
       refine K_seq ?_
       refine K_seq ?_
       refine K_region ?_
       refine W_assign rfl rfl ?_
       refine W_nil ?_
       refine N_then_k ?_
       refine K_block ?_
       refine K_loop (σ := Nat) [6, 7, 26, 27, 28, 29, 30, 31, 32, 33, 34]
           (fun k => [(7, .int .i64 k), (6, .string ⟨(List.replicate k (48 : UInt8) ++ textN n).toArray⟩)])
           (fun k w => Hp w0 [] [] w ∧ k ≤ m)
           (fun k => m - k) (0) ?_ ?_ ?_
       · repeat' (first | exact sub_lst_nil (sub_nil _) | refine sub_lst rfl ?_ | (refine sub_lst_eq rfl ?_ ?_; · first | rfl | (simp; done) | (congr 1; omega)))
       · exact ⟨hp, Nat.zero_le _⟩
       · intro k w hJ
         clear hp
         obtain ⟨hp, hle⟩ := hJ
         rcases (Nat.lt_or_ge k m).imp id (fun h => (Nat.le_antisymm hle h).symm) with hlt | rfl
         all_goals (
          refine K_seq ?_
          refine K_seq ?_
          refine K_region ?_
          refine W_move rfl rfl ?_
          refine W_move rfl rfl ?_
          first
            | (refine W_conv_i Tryd.underlying5 Tryd.underlying3 rfl (wr_i64 ?_) rfl ?_; (focus (first | omega | (have := u8_lt ‹_›; omega))))
            | (refine W_conv_i Tryd.underlying5 Tryd.underlying3 rfl rfl rfl ?_)
          first
            | (refine W_rem rfl rfl ?_ (rem_nn ?_) rfl ?_; (focus (omega)); (focus (omega)))
            | (refine W_rem rfl rfl ?_ rfl rfl ?_; (focus (omega)))
          first
            | (refine W_lss_t rfl rfl ?_ rfl ?_; (focus (omega)))
            | (refine W_lss_f rfl rfl ?_ rfl ?_; (focus (omega)))
            | (refine W_lss rfl rfl rfl ?_)
          refine W_nil ?_
          refine N_then_k ?_
          first
            | refine K_cond_d rfl (fun hc4 => ?_) (fun hc4 => ?_)
            | refine K_cond_n rfl (fun hc4 => ?_) (fun hc4 => ?_)
            | refine K_cond_nb rfl (fun hc4 => ?_) (fun hc4 => ?_)
            | refine K_cond_t rfl (fun hc4 => ?_) (fun hc4 => ?_)
          · try (exfalso; first | omega | (simp only [Bool.false_eq_true, reduceCtorEq] at hc4; done) | (refine absurd hc4 ?_; with_reducible assumption) | (refine absurd ?_ hc4; with_reducible assumption))
            all_goals (
             refine K_skip ?_
             refine N_then_k ?_
             refine K_seq ?_
             refine K_block ?_
             refine K_region ?_
             refine W_move rfl rfl ?_
             refine W_sadd rfl rfl ?_ rfl ?_
             (focus (first | omega | (simp only [List.length_append, List.length_cons, List.length_nil, List.length_drop, List.length_take] at *; omega) | (simp; omega)))
             refine W_assign rfl rfl ?_
             refine W_nil ?_
             refine N_block_normal ?_
             refine N_then_k ?_
             refine K_region ?_
             refine W_move rfl rfl ?_
             first
               | (refine W_add rfl rfl (wr_i64 ?_) rfl ?_; (focus (omega)))
               | (refine W_add rfl rfl rfl rfl ?_)
             refine W_assign rfl rfl ?_
             refine W_nil ?_
             refine N_again (k + 1) (sub_end ?_ ?_) ?_ ?_
             · repeat' (first | exact sub_lst_nil (sub_nil _) | refine sub_lst rfl ?_ | (refine sub_lst_eq rfl ?_ ?_; · first | rfl | (simp; done) | (congr 1; omega)))
             · repeat' (first | exact sub_refl _ | exact sub_strip _ _ | refine sub_s_cons rfl ?_ | refine sub_s_lst rfl ?_ | refine sub_s_strip rfl ?_)
             · exact ⟨hp, hlt⟩
             · omega)
          · try (exfalso; first | omega | (simp only [Bool.false_eq_true, reduceCtorEq] at hc4; done) | (refine absurd hc4 ?_; with_reducible assumption) | (refine absurd ?_ hc4; with_reducible assumption))
            all_goals (
             refine K_exit ?_
             refine N_then_exit ?_
             refine N_then_exit ?_
             refine N_block_exit ?_
             refine N_then_k ?_
             refine K_seq ?_
             refine K_region ?_
             have hzl : (List.replicate m 48 ++ textN n).length ≤ 1000000 := by simp; omega
             refine W_move rfl rfl ?_
             refine W_move rfl rfl ?_
             refine W_pcall hp rfl ((parse_spec (List.replicate m 48 ++ textN n) n hzl (by omega) (by omega)).eq (rV_ok (n := n) (by rw [zeros_read, if_neg (by omega)]))) rfl ?_
             clear hp; intro w hp
             refine W_move rfl rfl ?_
             refine W_extract rfl rfl rfl ?_
             refine W_extract rfl rfl rfl ?_
             refine W_assign rfl rfl ?_
             refine W_assign rfl rfl ?_
             refine W_nil ?_
             refine N_then_k ?_
             refine K_seq ?_
             refine K_seq ?_
             refine K_region ?_
             refine W_move rfl rfl ?_
             refine W_move rfl rfl ?_
             refine W_pcall hp rfl (rtext_spec n hn) rfl ?_
             clear hp; intro w hp
             first
               | (refine W_sneq_f rfl rfl ?_ rfl ?_; (focus (first | rfl | assumption)))
               | (refine W_sneq_t rfl rfl ?_ rfl ?_; (focus (first | assumption | decide | exact List.cons_ne_nil _ _)))
               | (refine W_sneq rfl rfl rfl ?_)
             refine W_move rfl rfl ?_
             first
               | refine W_guard_lit_t rfl ?_
               | refine W_guard_lit_f rfl ?_
               | refine W_guard_lit_u rfl ?_
               | refine W_guard_split_d rfl rfl rfl (fun hg5 => ?_) (fun hg5 => ?_)
               | refine W_guard_split_n rfl rfl rfl (fun hg5 => ?_) (fun hg5 => ?_)
               | refine W_guard_split_nb rfl rfl rfl (fun hg5 => ?_) (fun hg5 => ?_)
               | refine W_guard_split rfl rfl rfl (fun hg5 => ?_) (fun hg5 => ?_)
             all_goals try (exfalso; first | omega | (simp only [Bool.false_eq_true, reduceCtorEq] at hg5; done) | (refine absurd hg5 ?_; with_reducible assumption) | (refine absurd ?_ hg5; with_reducible assumption))
             all_goals (
              first
                | (iterate 3 refine W_guard_no rfl rfl rfl ?_)
                | (iterate 3 refine W_guard_un rfl rfl ?_)
                | (refine W_guard_yes rfl ?_
                   refine W_move rfl rfl ?_
                   refine W_guard_yes rfl ?_
                   refine W_move rfl rfl ?_
                   refine W_guard_yes rfl ?_
                   first
                     | (refine W_neq_t rfl rfl ?_ rfl ?_; (focus (omega)))
                     | (refine W_neq_f rfl rfl ?_ rfl ?_; (focus (omega)))
                     | (refine W_neq rfl rfl rfl ?_))
              first
                | (refine W_pick_t rfl rfl rfl ?_)
                | (refine W_pick_f rfl rfl rfl ?_)
                | (refine W_pick_b rfl rfl rfl rfl ?_)
              refine W_move rfl rfl ?_
              first
                | refine W_guard_lit_t rfl ?_
                | refine W_guard_lit_f rfl ?_
                | refine W_guard_lit_u rfl ?_
                | refine W_guard_split_d rfl rfl rfl (fun hg6 => ?_) (fun hg6 => ?_)
                | refine W_guard_split_n rfl rfl rfl (fun hg6 => ?_) (fun hg6 => ?_)
                | refine W_guard_split_nb rfl rfl rfl (fun hg6 => ?_) (fun hg6 => ?_)
                | refine W_guard_split rfl rfl rfl (fun hg6 => ?_) (fun hg6 => ?_)
              all_goals try (exfalso; first | omega | (simp only [Bool.false_eq_true, reduceCtorEq] at hg6; done) | (refine absurd hg6 ?_; with_reducible assumption) | (refine absurd ?_ hg6; with_reducible assumption))
              all_goals (
               first
                 | (iterate 2 refine W_guard_no rfl rfl rfl ?_)
                 | (iterate 2 refine W_guard_un rfl rfl ?_)
                 | (refine W_guard_yes rfl ?_
                    refine W_move rfl rfl ?_
                    refine W_guard_yes rfl ?_
                    refine W_val rfl (inb_of rfl) (R_bin (a := .nilIface) (v := .bool false) rfl rfl ?_) ?_
                    · kernel_rfl)
               first
                 | (refine W_pick_t rfl rfl rfl ?_)
                 | (refine W_pick_f rfl rfl rfl ?_)
                 | (refine W_pick_b rfl rfl rfl rfl ?_)
               refine W_nil ?_
               refine N_then_k ?_
               first
                 | refine K_cond_d rfl (fun hc7 => ?_) (fun hc7 => ?_)
                 | refine K_cond_n rfl (fun hc7 => ?_) (fun hc7 => ?_)
                 | refine K_cond_nb rfl (fun hc7 => ?_) (fun hc7 => ?_)
                 | refine K_cond_t rfl (fun hc7 => ?_) (fun hc7 => ?_)
               · try (exfalso; first | omega | (simp only [Bool.false_eq_true, reduceCtorEq] at hc7; done) | (refine absurd hc7 ?_; with_reducible assumption) | (refine absurd ?_ hc7; with_reducible assumption))
                 all_goals (
                  refine K_seq ?_
                  refine K_region ?_
                  refine W_assign rfl rfl ?_
                  refine W_nil ?_
                  refine N_then_k ?_
                  refine K_ret ?_
                  refine N_then_ret ?_
                  refine N_done1 (.inr rfl) rfl rfl ?_
                  exact ⟨_, rfl, rfl, hp.nil⟩)
               · try (exfalso; first | omega | (simp only [Bool.false_eq_true, reduceCtorEq] at hc7; done) | (refine absurd hc7 ?_; with_reducible assumption) | (refine absurd ?_ hc7; with_reducible assumption))
                 all_goals (
                  refine K_skip ?_
                  refine N_then_k ?_
                  refine K_seq ?_
                  refine K_seq ?_
                  refine K_region ?_
                  refine W_move rfl rfl ?_
                  first
                    | (refine W_eql_t rfl rfl ?_ rfl ?_; (focus (omega)))
                    | (refine W_eql_f rfl rfl ?_ rfl ?_; (focus (omega)))
                    | (refine W_eql rfl rfl rfl ?_)
                  refine W_nil ?_
                  refine N_then_k ?_
                  first
                    | refine K_cond_d rfl (fun hc8 => ?_) (fun hc8 => ?_)
                    | refine K_cond_n rfl (fun hc8 => ?_) (fun hc8 => ?_)
                    | refine K_cond_nb rfl (fun hc8 => ?_) (fun hc8 => ?_)
                    | refine K_cond_t rfl (fun hc8 => ?_) (fun hc8 => ?_)
                  · try (exfalso; first | omega | (simp only [Bool.false_eq_true, reduceCtorEq] at hc8; done) | (refine absurd hc8 ?_; with_reducible assumption) | (refine absurd ?_ hc8; with_reducible assumption))
                    all_goals (
                     refine K_seq ?_
                     refine K_region ?_
                     refine W_assign rfl rfl ?_
                     refine W_nil ?_
                     refine N_then_k ?_
                     refine K_ret ?_
                     refine N_then_ret ?_
                     refine N_done1 (.inr rfl) rfl rfl ?_
                     exact ⟨_, rfl, rfl, hp.nil⟩)
                  · try (exfalso; first | omega | (simp only [Bool.false_eq_true, reduceCtorEq] at hc8; done) | (refine absurd hc8 ?_; with_reducible assumption) | (refine absurd ?_ hc8; with_reducible assumption))
                    all_goals (
                     refine K_skip ?_
                     refine N_then_k ?_
                     refine K_seq ?_
                     refine K_region ?_
                     refine W_move rfl rfl ?_
                     refine W_move rfl rfl ?_
                     first
                       | (refine W_sub rfl rfl (wr_i64 ?_) rfl ?_; (focus (omega)))
                       | (refine W_sub rfl rfl rfl rfl ?_)
                     refine W_pcall hp rfl ((parse_spec (List.replicate m 48 ++ textN n) ((n : Int) - 1) hzl (by omega) (by omega)).eq (rV_over (by rw [zeros_read, if_pos (by omega)]))) rfl ?_
                     clear hp; intro w hp
                     refine W_move rfl rfl ?_
                     refine W_extract rfl rfl rfl ?_
                     refine W_extract rfl rfl rfl ?_
                     refine W_assign rfl rfl ?_
                     refine W_assign rfl rfl ?_
                     refine W_nil ?_
                     refine N_then_k ?_
                     refine K_seq ?_
                     refine K_region ?_
                     refine W_move rfl rfl ?_
                     first
                       | (refine W_eql_t rfl rfl ?_ rfl ?_; (focus (omega)))
                       | (refine W_eql_f rfl rfl ?_ rfl ?_; (focus (omega)))
                       | (refine W_eql rfl rfl rfl ?_)
                     refine W_move rfl rfl ?_
                     first
                       | refine W_guard_lit_t rfl ?_
                       | refine W_guard_lit_f rfl ?_
                       | refine W_guard_lit_u rfl ?_
                       | refine W_guard_split_d rfl rfl rfl (fun hg9 => ?_) (fun hg9 => ?_)
                       | refine W_guard_split_n rfl rfl rfl (fun hg9 => ?_) (fun hg9 => ?_)
                       | refine W_guard_split_nb rfl rfl rfl (fun hg9 => ?_) (fun hg9 => ?_)
                       | refine W_guard_split rfl rfl rfl (fun hg9 => ?_) (fun hg9 => ?_)
                     all_goals try (exfalso; first | omega | (simp only [Bool.false_eq_true, reduceCtorEq] at hg9; done) | (refine absurd hg9 ?_; with_reducible assumption) | (refine absurd ?_ hg9; with_reducible assumption))
                     all_goals (
                      first
                        | (iterate 2 refine W_guard_no rfl rfl rfl ?_)
                        | (iterate 2 refine W_guard_un rfl rfl ?_)
                        | (refine W_guard_yes rfl ?_
                           refine W_move rfl rfl ?_
                           refine W_guard_yes rfl ?_
                           first
                             | (refine W_acall hp rfl (wrong_spec w (hg.keep hp) 413 0) rfl ?_)
                           clear hp; intro w hp)
                      first
                        | (refine W_pick_t rfl rfl rfl ?_)
                        | (refine W_pick_f rfl rfl rfl ?_)
                        | (refine W_pick_b rfl rfl rfl rfl ?_)
                      refine W_assign rfl rfl ?_
                      refine W_nil ?_
                      refine N_then_k ?_
                      refine K_ret ?_
                      refine N_done1 (.inr rfl) rfl rfl ?_
                      exact ⟨_, rfl, rfl, hp.nil⟩))))))))))

theorem DecimalSums_walk (w0 : World) (hg : ErrT w0) (a b most : Int) : PureAt Tryd.prog 6 [.int .i64 a, .int .i64 b, .int .i64 most] (.bool true) w0 := by
  refine PureAt.intro go6 Tryd.func6 rfl rfl fun hp => ?_
  refine (fun (hk : ∀ w, Hp w0 [] [] w → K _ _ _ _ _ w) => hk w0 hp) fun w hp => ?_
  refine K_seq ?_
  refine K_region ?_
  refine W_assign rfl rfl ?_
  refine W_nil ?_
  refine N_then_k ?_
  refine K_seq ?_
  refine K_seq ?_
  refine K_region ?_
  refine W_acall hp rfl ((awake_spec w (hg.keep hp))) rfl ?_
  clear hp; intro w hp
  first
    | (refine W_not_t rfl rfl ?_)
    | (refine W_not_f rfl rfl ?_)
    | (refine W_not rfl rfl ?_)
  refine W_move rfl rfl ?_
  first
    | refine W_guard_lit_t rfl ?_
    | refine W_guard_lit_f rfl ?_
    | refine W_guard_lit_u rfl ?_
    | refine W_guard_split_d rfl rfl rfl (fun hg1 => ?_) (fun hg1 => ?_)
    | refine W_guard_split_n rfl rfl rfl (fun hg1 => ?_) (fun hg1 => ?_)
    | refine W_guard_split_nb rfl rfl rfl (fun hg1 => ?_) (fun hg1 => ?_)
    | refine W_guard_split rfl rfl rfl (fun hg1 => ?_) (fun hg1 => ?_)
  all_goals try (exfalso; first | omega | (simp only [Bool.false_eq_true, reduceCtorEq] at hg1; done) | (refine absurd hg1 ?_; with_reducible assumption) | (refine absurd ?_ hg1; with_reducible assumption))
  all_goals (
   first
     | (iterate 2 refine W_guard_no rfl rfl rfl ?_)
     | (iterate 2 refine W_guard_un rfl rfl ?_)
     | (refine W_guard_yes rfl ?_
        refine W_move rfl rfl ?_
        refine W_guard_yes rfl ?_
        first
          | (refine W_lss_t rfl rfl ?_ rfl ?_; (focus (omega)))
          | (refine W_lss_f rfl rfl ?_ rfl ?_; (focus (omega)))
          | (refine W_lss rfl rfl rfl ?_))
   first
     | (refine W_pick_t rfl rfl rfl ?_)
     | (refine W_pick_f rfl rfl rfl ?_)
     | (refine W_pick_b rfl rfl rfl rfl ?_)
   refine W_move rfl rfl ?_
   first
     | refine W_guard_lit_t rfl ?_
     | refine W_guard_lit_f rfl ?_
     | refine W_guard_lit_u rfl ?_
     | refine W_guard_split_d rfl rfl rfl (fun hg2 => ?_) (fun hg2 => ?_)
     | refine W_guard_split_n rfl rfl rfl (fun hg2 => ?_) (fun hg2 => ?_)
     | refine W_guard_split_nb rfl rfl rfl (fun hg2 => ?_) (fun hg2 => ?_)
     | refine W_guard_split rfl rfl rfl (fun hg2 => ?_) (fun hg2 => ?_)
   all_goals try (exfalso; first | omega | (simp only [Bool.false_eq_true, reduceCtorEq] at hg2; done) | (refine absurd hg2 ?_; with_reducible assumption) | (refine absurd ?_ hg2; with_reducible assumption))
   all_goals (
    first
      | (iterate 2 refine W_guard_no rfl rfl rfl ?_)
      | (iterate 2 refine W_guard_un rfl rfl ?_)
      | (refine W_guard_yes rfl ?_
         refine W_move rfl rfl ?_
         refine W_guard_yes rfl ?_
         first
           | (refine W_lss_t rfl rfl ?_ rfl ?_; (focus (omega)))
           | (refine W_lss_f rfl rfl ?_ rfl ?_; (focus (omega)))
           | (refine W_lss rfl rfl rfl ?_))
    first
      | (refine W_pick_t rfl rfl rfl ?_)
      | (refine W_pick_f rfl rfl rfl ?_)
      | (refine W_pick_b rfl rfl rfl rfl ?_)
    refine W_move rfl rfl ?_
    first
      | refine W_guard_lit_t rfl ?_
      | refine W_guard_lit_f rfl ?_
      | refine W_guard_lit_u rfl ?_
      | refine W_guard_split_d rfl rfl rfl (fun hg3 => ?_) (fun hg3 => ?_)
      | refine W_guard_split_n rfl rfl rfl (fun hg3 => ?_) (fun hg3 => ?_)
      | refine W_guard_split_nb rfl rfl rfl (fun hg3 => ?_) (fun hg3 => ?_)
      | refine W_guard_split rfl rfl rfl (fun hg3 => ?_) (fun hg3 => ?_)
    all_goals try (exfalso; first | omega | (simp only [Bool.false_eq_true, reduceCtorEq] at hg3; done) | (refine absurd hg3 ?_; with_reducible assumption) | (refine absurd ?_ hg3; with_reducible assumption))
    all_goals (
     first
       | (iterate 2 refine W_guard_no rfl rfl rfl ?_)
       | (iterate 2 refine W_guard_un rfl rfl ?_)
       | (refine W_guard_yes rfl ?_
          refine W_move rfl rfl ?_
          refine W_guard_yes rfl ?_
          first
            | (refine W_lss_t rfl rfl ?_ rfl ?_; (focus (omega)))
            | (refine W_lss_f rfl rfl ?_ rfl ?_; (focus (omega)))
            | (refine W_lss rfl rfl rfl ?_))
     first
       | (refine W_pick_t rfl rfl rfl ?_)
       | (refine W_pick_f rfl rfl rfl ?_)
       | (refine W_pick_b rfl rfl rfl rfl ?_)
     refine W_move rfl rfl ?_
     first
       | refine W_guard_lit_t rfl ?_
       | refine W_guard_lit_f rfl ?_
       | refine W_guard_lit_u rfl ?_
       | refine W_guard_split_d rfl rfl rfl (fun hg4 => ?_) (fun hg4 => ?_)
       | refine W_guard_split_n rfl rfl rfl (fun hg4 => ?_) (fun hg4 => ?_)
       | refine W_guard_split_nb rfl rfl rfl (fun hg4 => ?_) (fun hg4 => ?_)
       | refine W_guard_split rfl rfl rfl (fun hg4 => ?_) (fun hg4 => ?_)
     all_goals try (exfalso; first | omega | (simp only [Bool.false_eq_true, reduceCtorEq] at hg4; done) | (refine absurd hg4 ?_; with_reducible assumption) | (refine absurd ?_ hg4; with_reducible assumption))
     all_goals (
      first
        | (iterate 2 refine W_guard_no rfl rfl rfl ?_)
        | (iterate 2 refine W_guard_un rfl rfl ?_)
        | (refine W_guard_yes rfl ?_
           refine W_move rfl rfl ?_
           refine W_guard_yes rfl ?_
           first
             | (refine W_gtr_t rfl rfl ?_ rfl ?_; (focus (omega)))
             | (refine W_gtr_f rfl rfl ?_ rfl ?_; (focus (omega)))
             | (refine W_gtr rfl rfl rfl ?_))
      first
        | (refine W_pick_t rfl rfl rfl ?_)
        | (refine W_pick_f rfl rfl rfl ?_)
        | (refine W_pick_b rfl rfl rfl rfl ?_)
      refine W_move rfl rfl ?_
      first
        | refine W_guard_lit_t rfl ?_
        | refine W_guard_lit_f rfl ?_
        | refine W_guard_lit_u rfl ?_
        | refine W_guard_split_d rfl rfl rfl (fun hg5 => ?_) (fun hg5 => ?_)
        | refine W_guard_split_n rfl rfl rfl (fun hg5 => ?_) (fun hg5 => ?_)
        | refine W_guard_split_nb rfl rfl rfl (fun hg5 => ?_) (fun hg5 => ?_)
        | refine W_guard_split rfl rfl rfl (fun hg5 => ?_) (fun hg5 => ?_)
      all_goals try (exfalso; first | omega | (simp only [Bool.false_eq_true, reduceCtorEq] at hg5; done) | (refine absurd hg5 ?_; with_reducible assumption) | (refine absurd ?_ hg5; with_reducible assumption))
      all_goals (
       first
         | (iterate 2 refine W_guard_no rfl rfl rfl ?_)
         | (iterate 2 refine W_guard_un rfl rfl ?_)
         | (refine W_guard_yes rfl ?_
            refine W_move rfl rfl ?_
            refine W_guard_yes rfl ?_
            first
              | (refine W_gtr_t rfl rfl ?_ rfl ?_; (focus (omega)))
              | (refine W_gtr_f rfl rfl ?_ rfl ?_; (focus (omega)))
              | (refine W_gtr rfl rfl rfl ?_))
       first
         | (refine W_pick_t rfl rfl rfl ?_)
         | (refine W_pick_f rfl rfl rfl ?_)
         | (refine W_pick_b rfl rfl rfl rfl ?_)
       refine W_move rfl rfl ?_
       first
         | refine W_guard_lit_t rfl ?_
         | refine W_guard_lit_f rfl ?_
         | refine W_guard_lit_u rfl ?_
         | refine W_guard_split_d rfl rfl rfl (fun hg6 => ?_) (fun hg6 => ?_)
         | refine W_guard_split_n rfl rfl rfl (fun hg6 => ?_) (fun hg6 => ?_)
         | refine W_guard_split_nb rfl rfl rfl (fun hg6 => ?_) (fun hg6 => ?_)
         | refine W_guard_split rfl rfl rfl (fun hg6 => ?_) (fun hg6 => ?_)
       all_goals try (exfalso; first | omega | (simp only [Bool.false_eq_true, reduceCtorEq] at hg6; done) | (refine absurd hg6 ?_; with_reducible assumption) | (refine absurd ?_ hg6; with_reducible assumption))
       all_goals (
        first
          | (iterate 2 refine W_guard_no rfl rfl rfl ?_)
          | (iterate 2 refine W_guard_un rfl rfl ?_)
          | (refine W_guard_yes rfl ?_
             refine W_move rfl rfl ?_
             refine W_guard_yes rfl ?_
             first
               | (refine W_gtr_t rfl rfl ?_ rfl ?_; (focus (omega)))
               | (refine W_gtr_f rfl rfl ?_ rfl ?_; (focus (omega)))
               | (refine W_gtr rfl rfl rfl ?_))
        first
          | (refine W_pick_t rfl rfl rfl ?_)
          | (refine W_pick_f rfl rfl rfl ?_)
          | (refine W_pick_b rfl rfl rfl rfl ?_)
        refine W_nil ?_
        refine N_then_k ?_
        first
          | refine K_cond_d rfl (fun hc7 => ?_) (fun hc7 => ?_)
          | refine K_cond_n rfl (fun hc7 => ?_) (fun hc7 => ?_)
          | refine K_cond_nb rfl (fun hc7 => ?_) (fun hc7 => ?_)
          | refine K_cond_t rfl (fun hc7 => ?_) (fun hc7 => ?_)
        · try (exfalso; first | omega | (simp only [Bool.false_eq_true, reduceCtorEq] at hc7; done) | (refine absurd hc7 ?_; with_reducible assumption) | (refine absurd ?_ hc7; with_reducible assumption))
          all_goals (
           refine K_seq ?_
           refine K_region ?_
           refine W_acall hp rfl ((awake_spec w (hg.keep hp))) rfl ?_
           clear hp; intro w hp
           refine W_assign rfl rfl ?_
           refine W_nil ?_
           refine N_then_k ?_
           refine K_ret ?_
           refine N_then_ret ?_
           refine N_done1 (.inr rfl) rfl rfl ?_
           exact ⟨_, rfl, rfl, hp.nil⟩)
        · try (exfalso; first | omega | (simp only [Bool.false_eq_true, reduceCtorEq] at hc7; done) | (refine absurd hc7 ?_; with_reducible assumption) | (refine absurd ?_ hc7; with_reducible assumption))
          all_goals (
           refine K_skip ?_
           refine N_then_k ?_
           refine K_seq ?_
           refine K_region ?_
           have ha : 0 ≤ a ∧ a ≤ 4611686018427387904 := by omega
           have hb : 0 ≤ b ∧ b ≤ 4611686018427387904 := by omega
           have hm : 0 ≤ most ∧ most ≤ 4611686018427387904 := by omega
           rcases Int.lt_or_le most (a + b) with hs | hs
           all_goals (
            refine W_move rfl rfl ?_
            refine W_move rfl rfl ?_
            refine W_move rfl rfl ?_
            first
              | (refine W_pcall hp rfl (dsum_ok a b most ha hb hm hs) rfl ?_)
              | (refine W_pcall hp rfl (dsum_no a b most ha hb hm hs) rfl ?_)
            clear hp; intro w hp
            refine W_move rfl rfl ?_
            refine W_extract rfl rfl rfl ?_
            refine W_extract rfl rfl rfl ?_
            refine W_assign rfl rfl ?_
            refine W_assign rfl rfl ?_
            refine W_nil ?_
            refine N_then_k ?_
            refine K_seq ?_
            refine K_region ?_
            refine W_move rfl rfl ?_
            refine W_move rfl rfl ?_
            refine W_move rfl rfl ?_
            rw [Int.add_comm] at hs
            first
              | (refine W_pcall hp rfl (dsum_ok b a most hb ha hm hs) rfl ?_)
              | (refine W_pcall hp rfl (dsum_no b a most hb ha hm hs) rfl ?_)
            clear hp; intro w hp
            refine W_move rfl rfl ?_
            refine W_extract rfl rfl rfl ?_
            refine W_extract rfl rfl rfl ?_
            refine W_assign rfl rfl ?_
            refine W_assign rfl rfl ?_
            refine W_nil ?_
            refine N_then_k ?_
            refine K_seq ?_
            refine K_region ?_
            refine W_move rfl rfl ?_
            first
              | (refine W_conv_i Tryd.underlying3 Tryd.underlying35 rfl (wr_u64 ?_) rfl ?_; (focus (first | omega | (have := u8_lt ‹_›; omega))))
              | (refine W_conv_i Tryd.underlying3 Tryd.underlying35 rfl rfl rfl ?_)
            refine W_move rfl rfl ?_
            first
              | (refine W_conv_i Tryd.underlying3 Tryd.underlying35 rfl (wr_u64 ?_) rfl ?_; (focus (first | omega | (have := u8_lt ‹_›; omega))))
              | (refine W_conv_i Tryd.underlying3 Tryd.underlying35 rfl rfl rfl ?_)
            first
              | (refine W_add rfl rfl (wr_u64 ?_) rfl ?_; (focus (omega)))
              | (refine W_add rfl rfl rfl rfl ?_)
            refine W_move rfl rfl ?_
            first
              | (refine W_conv_i Tryd.underlying3 Tryd.underlying35 rfl (wr_u64 ?_) rfl ?_; (focus (first | omega | (have := u8_lt ‹_›; omega))))
              | (refine W_conv_i Tryd.underlying3 Tryd.underlying35 rfl rfl rfl ?_)
            first
              | (refine W_leq_t rfl rfl ?_ rfl ?_; (focus (omega)))
              | (refine W_leq_f rfl rfl ?_ rfl ?_; (focus (omega)))
              | (refine W_leq rfl rfl rfl ?_)
            refine W_assign rfl rfl ?_
            refine W_nil ?_
            refine N_then_k ?_
            refine K_seq ?_
            refine K_region ?_
            refine W_move rfl rfl ?_
            refine W_move rfl rfl ?_
            first
              | (refine W_beql_t Tryd.underlying4 rfl rfl rfl rfl ?_)
              | (refine W_beql_f Tryd.underlying4 rfl rfl rfl rfl ?_)
              | (refine W_beql Tryd.underlying4 rfl rfl rfl ?_)
            refine W_move rfl rfl ?_
            first
              | refine W_guard_lit_t rfl ?_
              | refine W_guard_lit_f rfl ?_
              | refine W_guard_lit_u rfl ?_
              | refine W_guard_split_d rfl rfl rfl (fun hg8 => ?_) (fun hg8 => ?_)
              | refine W_guard_split_n rfl rfl rfl (fun hg8 => ?_) (fun hg8 => ?_)
              | refine W_guard_split_nb rfl rfl rfl (fun hg8 => ?_) (fun hg8 => ?_)
              | refine W_guard_split rfl rfl rfl (fun hg8 => ?_) (fun hg8 => ?_)
            all_goals try (exfalso; first | omega | (simp only [Bool.false_eq_true, reduceCtorEq] at hg8; done) | (refine absurd hg8 ?_; with_reducible assumption) | (refine absurd ?_ hg8; with_reducible assumption))
            all_goals (
             first
               | (iterate 3 refine W_guard_no rfl rfl rfl ?_)
               | (iterate 3 refine W_guard_un rfl rfl ?_)
               | (refine W_guard_yes rfl ?_
                  refine W_move rfl rfl ?_
                  refine W_guard_yes rfl ?_
                  refine W_move rfl rfl ?_
                  refine W_guard_yes rfl ?_
                  first
                    | (refine W_beql_t Tryd.underlying4 rfl rfl rfl rfl ?_)
                    | (refine W_beql_f Tryd.underlying4 rfl rfl rfl rfl ?_)
                    | (refine W_beql Tryd.underlying4 rfl rfl rfl ?_))
             first
               | (refine W_pick_t rfl rfl rfl ?_)
               | (refine W_pick_f rfl rfl rfl ?_)
               | (refine W_pick_b rfl rfl rfl rfl ?_)
             refine W_move rfl rfl ?_
             first
               | refine W_guard_lit_t rfl ?_
               | refine W_guard_lit_f rfl ?_
               | refine W_guard_lit_u rfl ?_
               | refine W_guard_split_d rfl rfl rfl (fun hg9 => ?_) (fun hg9 => ?_)
               | refine W_guard_split_n rfl rfl rfl (fun hg9 => ?_) (fun hg9 => ?_)
               | refine W_guard_split_nb rfl rfl rfl (fun hg9 => ?_) (fun hg9 => ?_)
               | refine W_guard_split rfl rfl rfl (fun hg9 => ?_) (fun hg9 => ?_)
             all_goals try (exfalso; first | omega | (simp only [Bool.false_eq_true, reduceCtorEq] at hg9; done) | (refine absurd hg9 ?_; with_reducible assumption) | (refine absurd ?_ hg9; with_reducible assumption))
             all_goals (
              first
                | (iterate 3 refine W_guard_no rfl rfl rfl ?_)
                | (iterate 3 refine W_guard_un rfl rfl ?_)
                | (refine W_guard_yes rfl ?_
                   refine W_move rfl rfl ?_
                   refine W_guard_yes rfl ?_
                   refine W_move rfl rfl ?_
                   refine W_guard_yes rfl ?_
                   first
                     | (refine W_eql_t rfl rfl ?_ rfl ?_; (focus (omega)))
                     | (refine W_eql_f rfl rfl ?_ rfl ?_; (focus (omega)))
                     | (refine W_eql rfl rfl rfl ?_))
              first
                | (refine W_pick_t rfl rfl rfl ?_)
                | (refine W_pick_f rfl rfl rfl ?_)
                | (refine W_pick_b rfl rfl rfl rfl ?_)
              refine W_move rfl rfl ?_
              first
                | refine W_guard_lit_t rfl ?_
                | refine W_guard_lit_f rfl ?_
                | refine W_guard_lit_u rfl ?_
                | refine W_guard_split_d rfl rfl rfl (fun hg10 => ?_) (fun hg10 => ?_)
                | refine W_guard_split_n rfl rfl rfl (fun hg10 => ?_) (fun hg10 => ?_)
                | refine W_guard_split_nb rfl rfl rfl (fun hg10 => ?_) (fun hg10 => ?_)
                | refine W_guard_split rfl rfl rfl (fun hg10 => ?_) (fun hg10 => ?_)
              all_goals try (exfalso; first | omega | (simp only [Bool.false_eq_true, reduceCtorEq] at hg10; done) | (refine absurd hg10 ?_; with_reducible assumption) | (refine absurd ?_ hg10; with_reducible assumption))
              all_goals (
               first
                 | (iterate 2 refine W_guard_no rfl rfl rfl ?_)
                 | (iterate 2 refine W_guard_un rfl rfl ?_)
                 | (refine W_guard_yes rfl ?_
                    refine W_move rfl rfl ?_
                    refine W_guard_yes rfl ?_
                    refine W_move rfl rfl ?_)
               first
                 | refine W_guard_lit_t rfl ?_
                 | refine W_guard_lit_f rfl ?_
                 | refine W_guard_lit_u rfl ?_
                 | refine W_guard_split_d rfl rfl rfl (fun hg11 => ?_) (fun hg11 => ?_)
                 | refine W_guard_split_n rfl rfl rfl (fun hg11 => ?_) (fun hg11 => ?_)
                 | refine W_guard_split_nb rfl rfl rfl (fun hg11 => ?_) (fun hg11 => ?_)
                 | refine W_guard_split rfl rfl rfl (fun hg11 => ?_) (fun hg11 => ?_)
               all_goals try (exfalso; first | omega | (simp only [Bool.false_eq_true, reduceCtorEq] at hg11; done) | (refine absurd hg11 ?_; with_reducible assumption) | (refine absurd ?_ hg11; with_reducible assumption))
               all_goals (
                first
                  | (iterate 8 refine W_guard_no rfl rfl rfl ?_)
                  | (iterate 8 refine W_guard_un rfl rfl ?_)
                  | (refine W_guard_yes rfl ?_
                     refine W_move rfl rfl ?_
                     refine W_guard_yes rfl ?_
                     first
                       | (refine W_conv_i Tryd.underlying3 Tryd.underlying35 rfl (wr_u64 ?_) rfl ?_; (focus (first | omega | (have := u8_lt ‹_›; omega))))
                       | (refine W_conv_i Tryd.underlying3 Tryd.underlying35 rfl rfl rfl ?_)
                     refine W_guard_yes rfl ?_
                     refine W_move rfl rfl ?_
                     refine W_guard_yes rfl ?_
                     first
                       | (refine W_conv_i Tryd.underlying3 Tryd.underlying35 rfl (wr_u64 ?_) rfl ?_; (focus (first | omega | (have := u8_lt ‹_›; omega))))
                       | (refine W_conv_i Tryd.underlying3 Tryd.underlying35 rfl rfl rfl ?_)
                     refine W_guard_yes rfl ?_
                     refine W_move rfl rfl ?_
                     refine W_guard_yes rfl ?_
                     first
                       | (refine W_conv_i Tryd.underlying3 Tryd.underlying35 rfl (wr_u64 ?_) rfl ?_; (focus (first | omega | (have := u8_lt ‹_›; omega))))
                       | (refine W_conv_i Tryd.underlying3 Tryd.underlying35 rfl rfl rfl ?_)
                     refine W_guard_yes rfl ?_
                     first
                       | (refine W_add rfl rfl (wr_u64 ?_) rfl ?_; (focus (omega)))
                       | (refine W_add rfl rfl rfl rfl ?_)
                     refine W_guard_yes rfl ?_
                     first
                       | (refine W_eql_t rfl rfl ?_ rfl ?_; (focus (omega)))
                       | (refine W_eql_f rfl rfl ?_ rfl ?_; (focus (omega)))
                       | (refine W_eql rfl rfl rfl ?_))
                first
                  | (iterate 2 refine W_guard_no rfl rfl rfl ?_)
                  | (iterate 2 refine W_guard_un rfl rfl ?_)
                  | (refine W_guard_yes rfl ?_
                     first
                       | (refine W_pick_t rfl rfl rfl ?_)
                       | (refine W_pick_f rfl rfl rfl ?_)
                       | (refine W_pick_b rfl rfl rfl rfl ?_)
                     refine W_guard_yes rfl ?_
                     refine W_move rfl rfl ?_)
                first
                  | refine W_guard_lit_t rfl ?_
                  | refine W_guard_lit_f rfl ?_
                  | refine W_guard_lit_u rfl ?_
                  | refine W_guard_split_d rfl rfl rfl (fun hg12 => ?_) (fun hg12 => ?_)
                  | refine W_guard_split_n rfl rfl rfl (fun hg12 => ?_) (fun hg12 => ?_)
                  | refine W_guard_split_nb rfl rfl rfl (fun hg12 => ?_) (fun hg12 => ?_)
                  | refine W_guard_split rfl rfl rfl (fun hg12 => ?_) (fun hg12 => ?_)
                all_goals try (exfalso; first | omega | (simp only [Bool.false_eq_true, reduceCtorEq] at hg12; done) | (refine absurd hg12 ?_; with_reducible assumption) | (refine absurd ?_ hg12; with_reducible assumption))
                all_goals (
                 first
                   | (iterate 3 refine W_guard_no rfl rfl rfl ?_)
                   | (iterate 3 refine W_guard_un rfl rfl ?_)
                   | (refine W_guard_yes rfl ?_
                      refine W_move rfl rfl ?_
                      refine W_guard_yes rfl ?_
                      first
                        | (refine W_not_t rfl rfl ?_)
                        | (refine W_not_f rfl rfl ?_)
                        | (refine W_not rfl rfl ?_)
                      refine W_guard_yes rfl ?_
                      refine W_move rfl rfl ?_)
                 first
                   | refine W_guard_lit_t rfl ?_
                   | refine W_guard_lit_f rfl ?_
                   | refine W_guard_lit_u rfl ?_
                   | refine W_guard_split_d rfl rfl rfl (fun hg13 => ?_) (fun hg13 => ?_)
                   | refine W_guard_split_n rfl rfl rfl (fun hg13 => ?_) (fun hg13 => ?_)
                   | refine W_guard_split_nb rfl rfl rfl (fun hg13 => ?_) (fun hg13 => ?_)
                   | refine W_guard_split rfl rfl rfl (fun hg13 => ?_) (fun hg13 => ?_)
                 all_goals try (exfalso; first | omega | (simp only [Bool.false_eq_true, reduceCtorEq] at hg13; done) | (refine absurd hg13 ?_; with_reducible assumption) | (refine absurd ?_ hg13; with_reducible assumption))
                 all_goals (
                  first
                    | (iterate 2 refine W_guard_no rfl rfl rfl ?_)
                    | (iterate 2 refine W_guard_un rfl rfl ?_)
                    | (refine W_guard_yes rfl ?_
                       refine W_move rfl rfl ?_
                       refine W_guard_yes rfl ?_
                       first
                         | (refine W_eql_t rfl rfl ?_ rfl ?_; (focus (omega)))
                         | (refine W_eql_f rfl rfl ?_ rfl ?_; (focus (omega)))
                         | (refine W_eql rfl rfl rfl ?_))
                  first
                    | (refine W_guard_no rfl rfl rfl ?_)
                    | (refine W_guard_un rfl rfl ?_)
                    | (refine W_guard_yes rfl ?_
                       first
                         | (refine W_pick_t rfl rfl rfl ?_)
                         | (refine W_pick_f rfl rfl rfl ?_)
                         | (refine W_pick_b rfl rfl rfl rfl ?_))
                  first
                    | (refine W_guard_no rfl rfl rfl ?_)
                    | (refine W_guard_un rfl rfl ?_)
                    | (refine W_guard_yes rfl ?_
                       first
                         | (refine W_pick_t rfl rfl rfl ?_)
                         | (refine W_pick_f rfl rfl rfl ?_)
                         | (refine W_pick_b rfl rfl rfl rfl ?_))
                  first
                    | (refine W_pick_t rfl rfl rfl ?_)
                    | (refine W_pick_f rfl rfl rfl ?_)
                    | (refine W_pick_b rfl rfl rfl rfl ?_)
                  refine W_assign rfl rfl ?_
                  refine W_nil ?_
                  refine N_then_k ?_
                  refine K_ret ?_
                  refine N_done1 (.inr rfl) rfl rfl ?_
                  exact ⟨_, rfl, rfl, hp.nil⟩))))))))))))))

end Go.Proofs.YthkdgfflgamegaaDoor
