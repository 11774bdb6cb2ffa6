/-
  The reference implementation of package digest, walked: roots.
-/
import Derived.Test.YtbdmaiipohfnaaaDoorShaR
namespace Go.Proofs.YtbdmaiipohfnaaaDoor
open Go.Sx Go.RowKit
set_option linter.unusedVariables false
set_option linter.unusedSimpArgs false
set_option maxRecDepth 100000

set_option maxHeartbeats 600000 in
theorem atMost_spec (w0 : World) (L : List Nat) (A : Option Addr) (c : Nat) (hr : Rd w0 (.slice A L.length c) L.length (intsV L)) (p s : Nat) (hL : ∀ x ∈ L, x < 65536) (hp0 : p < 65536) (hs : s < L.length) (hl : L.length ≤ 100) : PureAt Tryd.prog 89 [.slice A L.length c, .int .i64 (p : Int), .int .i64 (s : Int)] (.bool (decide (valD L ≤ p * 65536 ^ s))) w0 := by
  obtain ⟨bb, oo, rfl⟩ := hr.some (by intro e; have := congrArg List.length e; rw [intsV_length, List.length_nil] at this; omega)
  refine PureAt.intro go89 Tryd.func89 rfl rfl fun hp => ?_
  refine (fun (hk : ∀ w, Hp w0 [] [] w → K _ _ _ _ _ w) => hk w0 hp) fun w hp => ?_
  refine K_seq ?_
  refine K_region ?_
  refine W_assign rfl rfl ?_
  refine W_nil ?_
  refine N_then_k ?_
  refine K_seq ?_
  refine K_seq ?_
  refine K_region ?_
  refine W_move rfl rfl ?_
  refine W_len_sl Tryd.underlying85 rfl rfl ?_
  first
    | (refine W_sub rfl rfl (wr_i64 ?_) rfl ?_; (focus (omega)))
    | (refine W_sub rfl rfl rfl rfl ?_)
  refine W_assign rfl rfl ?_
  refine W_nil ?_
  refine N_then_k ?_
  refine K_block ?_
  refine K_loop (σ := Nat) [6, 7, 12, 13, 14, 15, 16, 17, 18, 19, 20, 21]
      (fun i => [(7, .int .i64 i)])
      (fun i w => Hp w0 [] [] w ∧ s ≤ i ∧ i < L.length ∧ ∀ k, i < k → k < L.length → L.getD k 0 = 0)
      (fun i => i) (L.length - 1) ?_ ?_ ?_
  · repeat' (first | exact sub_lst_nil (sub_nil _) | refine sub_lst rfl ?_ | (refine sub_lst_eq rfl ?_ ?_; · first | rfl | ((congr 1; omega)) | (simp; done) | (congr 1; omega)))
  · exact ⟨hp, by omega, by omega, fun k h1 h2 => by omega⟩
  · intro i w hJ
    clear hp
    obtain ⟨hp, hsi, hil, hz⟩ := hJ
    refine K_seq ?_
    refine K_seq ?_
    refine K_region ?_
    refine W_move rfl rfl ?_
    refine W_move rfl rfl ?_
    first
      | (refine W_gtr_t rfl rfl ?_ rfl ?_; (focus (omega)))
      | (refine W_gtr_f rfl rfl ?_ rfl ?_; (focus (omega)))
      | (refine W_gtr rfl rfl rfl ?_)
    refine W_nil ?_
    refine N_then_k ?_
    first
      | refine K_cond_d rfl (fun hc1 => ?_) (fun hc1 => ?_)
      | refine K_cond_n rfl (fun hc1 => ?_) (fun hc1 => ?_)
      | refine K_cond_nb rfl (fun hc1 => ?_) (fun hc1 => ?_)
      | refine K_cond_t rfl (fun hc1 => ?_) (fun hc1 => ?_)
    · try (exfalso; first | omega | (simp only [Bool.false_eq_true, reduceCtorEq] at hc1; done) | (refine absurd hc1 ?_; with_reducible assumption) | (refine absurd ?_ hc1; with_reducible assumption))
      all_goals (
       refine K_skip ?_
       refine N_then_k ?_
       refine K_seq ?_
       refine K_block ?_
       refine K_seq ?_
       refine K_region ?_
       have hgi : L[i]? = some (L.getD i 0) := by rw [List.getD_eq_getElem?_getD, List.getElem?_eq_getElem (by omega)]; rfl
       refine W_move rfl rfl ?_
       refine W_move rfl rfl ?_
       refine W_indexAddr_sl Tryd.underlying85 sz3 rfl rfl ?_ ?_ rfl ?_
       (focus (omega))
       (focus (first | omega | (simp; done) | (simp; omega)))
       refine W_load_s Tryd.underlying3 rfl rfl (by exact hp.cell_old0 (show w0.cell? ⟨bb, oo + (i : Int).toNat * 1, none⟩ = some (.int .i64 ((L.getD (i) 0 : Nat) : Int)) by rw [show oo + (i : Int).toNat * 1 = oo + (i) by omega]; exact hr.cell (intsV_get (L := L) (k := i) rfl (by omega)))) rfl ?_
       first
         | (refine W_gtr_t rfl rfl ?_ rfl ?_; (focus (omega)))
         | (refine W_gtr_f rfl rfl ?_ rfl ?_; (focus (omega)))
         | (refine W_gtr rfl rfl rfl ?_)
       refine W_nil ?_
       refine N_then_k ?_
       first
         | refine K_cond_d rfl (fun hc2 => ?_) (fun hc2 => ?_)
         | refine K_cond_n rfl (fun hc2 => ?_) (fun hc2 => ?_)
         | refine K_cond_nb rfl (fun hc2 => ?_) (fun hc2 => ?_)
         | refine K_cond_t rfl (fun hc2 => ?_) (fun hc2 => ?_)
       · try (exfalso; first | omega | (simp only [Bool.false_eq_true, reduceCtorEq] at hc2; done) | (refine absurd hc2 ?_; with_reducible assumption) | (refine absurd ?_ hc2; with_reducible assumption))
         all_goals (
          refine K_seq ?_
          refine K_region ?_
          refine W_assign rfl rfl ?_
          refine W_nil ?_
          refine N_then_k ?_
          refine K_ret ?_
          refine N_block_ret ?_
          refine N_then_ret ?_
          refine N_then_ret ?_
          refine N_block_ret ?_
          refine N_then_ret ?_
          refine N_done1 (.inr rfl) rfl rfl ?_
          refine ⟨_, rfl, congrArg Value.bool ?_, hp.nil⟩
          first
            | exact (decide_eq_false (most_low hil hz (by omega) (by omega) hgj (by omega))).symm
            | exact (decide_eq_false (most_above hgi (by omega) (by omega) hp0)).symm
            | exact (decide_eq_true (most_eq hil hz (by omega) (fun k hk => hlz k (by omega)))).symm
            | (rw [most_at hL hil hz (by omega)]; refine decide_eq_decide.2 ?_; omega))
       · try (exfalso; first | omega | (simp only [Bool.false_eq_true, reduceCtorEq] at hc2; done) | (refine absurd hc2 ?_; with_reducible assumption) | (refine absurd ?_ hc2; with_reducible assumption))
         all_goals (
          refine K_skip ?_
          refine N_block_normal ?_
          refine N_then_k ?_
          refine K_region ?_
          refine W_move rfl rfl ?_
          first
            | (refine W_sub rfl rfl (wr_i64 ?_) rfl ?_; (focus (omega)))
            | (refine W_sub rfl rfl rfl rfl ?_)
          refine W_assign rfl rfl ?_
          refine W_nil ?_
          refine N_again (i - 1) (sub_end ?_ ?_) ?_ ?_
          · repeat' (first | exact sub_lst_nil (sub_nil _) | refine sub_lst rfl ?_ | (refine sub_lst_eq rfl ?_ ?_; · first | rfl | ((congr 1; omega)) | (simp; done) | (congr 1; omega)))
          · repeat' (first | exact sub_refl _ | exact sub_strip _ _ | refine sub_s_cons rfl ?_ | refine sub_s_lst rfl ?_ | refine sub_s_strip rfl ?_)
          · refine ⟨hp, by omega, by omega, fun k h1 h2 => ?_⟩
            rcases Nat.lt_or_ge i k with h | h
            · exact hz k h h2
            · obtain rfl : k = i := by omega
              omega
          · omega))
    · try (exfalso; first | omega | (simp only [Bool.false_eq_true, reduceCtorEq] at hc1; done) | (refine absurd hc1 ?_; with_reducible assumption) | (refine absurd ?_ hc1; with_reducible assumption))
      all_goals (
       refine K_exit ?_
       refine N_then_exit ?_
       refine N_then_exit ?_
       refine N_block_exit ?_
       refine N_then_k ?_
       refine K_seq ?_
       refine K_seq ?_
       refine K_region ?_
       obtain rfl : i = s := by omega
       refine W_move rfl rfl ?_
       refine W_move rfl rfl ?_
       refine W_indexAddr_sl Tryd.underlying85 sz3 rfl rfl ?_ ?_ rfl ?_
       (focus (omega))
       (focus (first | omega | (simp; done) | (simp; omega)))
       refine W_load_s Tryd.underlying3 rfl rfl (by exact hp.cell_old0 (show w0.cell? ⟨bb, oo + (i : Int).toNat * 1, none⟩ = some (.int .i64 ((L.getD (i) 0 : Nat) : Int)) by rw [show oo + (i : Int).toNat * 1 = oo + (i) by omega]; exact hr.cell (intsV_get (L := L) (k := i) rfl (by omega)))) rfl ?_
       refine W_move rfl rfl ?_
       first
         | (refine W_neq_t rfl rfl ?_ rfl ?_; (focus (omega)))
         | (refine W_neq_f rfl rfl ?_ rfl ?_; (focus (omega)))
         | (refine W_neq rfl rfl rfl ?_)
       refine W_nil ?_
       refine N_then_k ?_
       first
         | refine K_cond_d rfl (fun hc3 => ?_) (fun hc3 => ?_)
         | refine K_cond_n rfl (fun hc3 => ?_) (fun hc3 => ?_)
         | refine K_cond_nb rfl (fun hc3 => ?_) (fun hc3 => ?_)
         | refine K_cond_t rfl (fun hc3 => ?_) (fun hc3 => ?_)
       · try (exfalso; first | omega | (simp only [Bool.false_eq_true, reduceCtorEq] at hc3; done) | (refine absurd hc3 ?_; with_reducible assumption) | (refine absurd ?_ hc3; with_reducible assumption))
         all_goals (
          refine K_seq ?_
          refine K_region ?_
          refine W_move rfl rfl ?_
          refine W_move rfl rfl ?_
          refine W_indexAddr_sl Tryd.underlying85 sz3 rfl rfl ?_ ?_ rfl ?_
          (focus (omega))
          (focus (first | omega | (simp; done) | (simp; omega)))
          refine W_load_s Tryd.underlying3 rfl rfl (by exact hp.cell_old0 (show w0.cell? ⟨bb, oo + (i : Int).toNat * 1, none⟩ = some (.int .i64 ((L.getD (i) 0 : Nat) : Int)) by rw [show oo + (i : Int).toNat * 1 = oo + (i) by omega]; exact hr.cell (intsV_get (L := L) (k := i) rfl (by omega)))) rfl ?_
          refine W_move rfl rfl ?_
          first
            | (refine W_lss_t rfl rfl ?_ rfl ?_; (focus (omega)))
            | (refine W_lss_f rfl rfl ?_ rfl ?_; (focus (omega)))
            | (refine W_lss rfl rfl rfl ?_)
          refine W_assign rfl rfl ?_
          refine W_nil ?_
          refine N_then_k ?_
          refine K_ret ?_
          refine N_then_ret ?_
          refine N_done1 (.inr rfl) rfl rfl ?_
          refine ⟨_, rfl, congrArg Value.bool ?_, hp.nil⟩
          first
            | exact (decide_eq_false (most_low hil hz (by omega) (by omega) hgj (by omega))).symm
            | exact (decide_eq_false (most_above hgi (by omega) (by omega) hp0)).symm
            | exact (decide_eq_true (most_eq hil hz (by omega) (fun k hk => hlz k (by omega)))).symm
            | (rw [most_at hL hil hz (by omega)]; refine decide_eq_decide.2 ?_; omega))
       · try (exfalso; first | omega | (simp only [Bool.false_eq_true, reduceCtorEq] at hc3; done) | (refine absurd hc3 ?_; with_reducible assumption) | (refine absurd ?_ hc3; with_reducible assumption))
         all_goals (
          refine K_skip ?_
          refine N_then_k ?_
          refine K_seq ?_
          refine K_seq ?_
          refine K_region ?_
          refine W_assign rfl rfl ?_
          refine W_nil ?_
          refine N_then_k ?_
          refine K_block ?_
          refine K_loop (σ := Nat) [6, 8, 34, 35, 36, 37, 38, 39, 40, 41, 42, 43]
              (fun j => [(8, .int .i64 j)])
              (fun j w => Hp w0 [] [] w ∧ j ≤ i ∧ ∀ k, k < j → L.getD k 0 = 0)
              (fun j => i - j) (0) ?_ ?_ ?_
          · repeat' (first | exact sub_lst_nil (sub_nil _) | refine sub_lst rfl ?_ | (refine sub_lst_eq rfl ?_ ?_; · first | rfl | (simp; done) | (congr 1; omega)))
          · exact ⟨hp, Nat.zero_le _, fun k h => absurd h (Nat.not_lt_zero _)⟩
          · intro j w hJ
            clear hp
            obtain ⟨hp, hji, hlz⟩ := hJ
            refine K_seq ?_
            refine K_seq ?_
            refine K_region ?_
            refine W_move rfl rfl ?_
            refine W_move rfl rfl ?_
            first
              | (refine W_lss_t rfl rfl ?_ rfl ?_; (focus (omega)))
              | (refine W_lss_f rfl rfl ?_ rfl ?_; (focus (omega)))
              | (refine W_lss rfl rfl rfl ?_)
            refine W_nil ?_
            refine N_then_k ?_
            first
              | refine K_cond_d rfl (fun hc4 => ?_) (fun hc4 => ?_)
              | refine K_cond_n rfl (fun hc4 => ?_) (fun hc4 => ?_)
              | refine K_cond_nb rfl (fun hc4 => ?_) (fun hc4 => ?_)
              | refine K_cond_t rfl (fun hc4 => ?_) (fun hc4 => ?_)
            · try (exfalso; first | omega | (simp only [Bool.false_eq_true, reduceCtorEq] at hc4; done) | (refine absurd hc4 ?_; with_reducible assumption) | (refine absurd ?_ hc4; with_reducible assumption))
              all_goals (
               refine K_skip ?_
               refine N_then_k ?_
               refine K_seq ?_
               refine K_block ?_
               refine K_seq ?_
               refine K_region ?_
               have hgj : L[j]? = some (L.getD j 0) := by rw [List.getD_eq_getElem?_getD, List.getElem?_eq_getElem (by omega)]; rfl
               refine W_move rfl rfl ?_
               refine W_move rfl rfl ?_
               refine W_indexAddr_sl Tryd.underlying85 sz3 rfl rfl ?_ ?_ rfl ?_
               (focus (omega))
               (focus (first | omega | (simp; done) | (simp; omega)))
               refine W_load_s Tryd.underlying3 rfl rfl (by exact hp.cell_old0 (show w0.cell? ⟨bb, oo + (j : Int).toNat * 1, none⟩ = some (.int .i64 ((L.getD (j) 0 : Nat) : Int)) by rw [show oo + (j : Int).toNat * 1 = oo + (j) by omega]; exact hr.cell (intsV_get (L := L) (k := j) rfl (by omega)))) rfl ?_
               first
                 | (refine W_gtr_t rfl rfl ?_ rfl ?_; (focus (omega)))
                 | (refine W_gtr_f rfl rfl ?_ rfl ?_; (focus (omega)))
                 | (refine W_gtr rfl rfl rfl ?_)
               refine W_nil ?_
               refine N_then_k ?_
               first
                 | refine K_cond_d rfl (fun hc5 => ?_) (fun hc5 => ?_)
                 | refine K_cond_n rfl (fun hc5 => ?_) (fun hc5 => ?_)
                 | refine K_cond_nb rfl (fun hc5 => ?_) (fun hc5 => ?_)
                 | refine K_cond_t rfl (fun hc5 => ?_) (fun hc5 => ?_)
               · try (exfalso; first | omega | (simp only [Bool.false_eq_true, reduceCtorEq] at hc5; done) | (refine absurd hc5 ?_; with_reducible assumption) | (refine absurd ?_ hc5; with_reducible assumption))
                 all_goals (
                  refine K_seq ?_
                  refine K_region ?_
                  refine W_assign rfl rfl ?_
                  refine W_nil ?_
                  refine N_then_k ?_
                  refine K_ret ?_
                  refine N_block_ret ?_
                  refine N_then_ret ?_
                  refine N_then_ret ?_
                  refine N_block_ret ?_
                  refine N_then_ret ?_
                  refine N_done1 (.inr rfl) rfl rfl ?_
                  refine ⟨_, rfl, congrArg Value.bool ?_, hp.nil⟩
                  first
                    | exact (decide_eq_false (most_low hil hz (by omega) (by omega) hgj (by omega))).symm
                    | exact (decide_eq_false (most_above hgi (by omega) (by omega) hp0)).symm
                    | exact (decide_eq_true (most_eq hil hz (by omega) (fun k hk => hlz k (by omega)))).symm
                    | (rw [most_at hL hil hz (by omega)]; refine decide_eq_decide.2 ?_; omega))
               · try (exfalso; first | omega | (simp only [Bool.false_eq_true, reduceCtorEq] at hc5; done) | (refine absurd hc5 ?_; with_reducible assumption) | (refine absurd ?_ hc5; with_reducible assumption))
                 all_goals (
                  refine K_skip ?_
                  refine N_block_normal ?_
                  refine N_then_k ?_
                  refine K_region ?_
                  refine W_move rfl rfl ?_
                  first
                    | (refine W_add rfl rfl (wr_i64 ?_) rfl ?_; (focus (omega)))
                    | (refine W_add rfl rfl rfl rfl ?_)
                  refine W_assign rfl rfl ?_
                  refine W_nil ?_
                  refine N_again (j + 1) (sub_end ?_ ?_) ?_ ?_
                  · repeat' (first | exact sub_lst_nil (sub_nil _) | refine sub_lst rfl ?_ | (refine sub_lst_eq rfl ?_ ?_; · first | rfl | (simp; done) | (congr 1; omega)))
                  · repeat' (first | exact sub_refl _ | exact sub_strip _ _ | refine sub_s_cons rfl ?_ | refine sub_s_lst rfl ?_ | refine sub_s_strip rfl ?_)
                  · refine ⟨hp, by omega, fun k h1 => ?_⟩
                    rcases Nat.lt_or_ge k j with h | h
                    · exact hlz k h
                    · obtain rfl : k = j := by omega
                      omega
                  · omega))
            · try (exfalso; first | omega | (simp only [Bool.false_eq_true, reduceCtorEq] at hc4; done) | (refine absurd hc4 ?_; with_reducible assumption) | (refine absurd ?_ hc4; with_reducible assumption))
              all_goals (
               refine K_exit ?_
               refine N_then_exit ?_
               refine N_then_exit ?_
               refine N_block_exit ?_
               refine N_then_k ?_
               refine K_seq ?_
               refine K_region ?_
               refine W_assign rfl rfl ?_
               refine W_nil ?_
               refine N_then_k ?_
               refine K_ret ?_
               refine N_done1 (.inr rfl) rfl rfl ?_
               refine ⟨_, rfl, congrArg Value.bool ?_, hp.nil⟩
               first
                 | exact (decide_eq_false (most_low hil hz (by omega) (by omega) hgj (by omega))).symm
                 | exact (decide_eq_false (most_above hgi (by omega) (by omega) hp0)).symm
                 | exact (decide_eq_true (most_eq hil hz (by omega) (fun k hk => hlz k (by omega)))).symm
                 | (rw [most_at hL hil hz (by omega)]; refine decide_eq_decide.2 ?_; omega))))

theorem bit_next (k : Nat) : 1099511627776 / 2 ^ (k + 1) = 1099511627776 / 2 ^ k / 2 := by rw [Nat.div_div_eq_div_mul, Nat.pow_succ]
theorem bit_pos {k : Nat} (h : k < 41) : 0 < 1099511627776 / 2 ^ k := Nat.div_pos (Nat.le_trans (Nat.pow_le_pow_right (by decide) (show k ≤ 40 by omega)) (by decide)) (Nat.pow_pos (by decide))
theorem rootR_yes {p pow k : Nat} (h : (rootR p pow k + 1099511627776 / 2 ^ k) ^ pow ≤ p * 65536 ^ (2 * pow)) : rootR p pow (k + 1) = rootR p pow k + 1099511627776 / 2 ^ k := by
  show (if _ then _ else _) = _
  rw [if_pos h]
theorem rootR_no {p pow k : Nat} (h : ¬ (rootR p pow k + 1099511627776 / 2 ^ k) ^ pow ≤ p * 65536 ^ (2 * pow)) : rootR p pow (k + 1) = rootR p pow k := by
  show (if _ then _ else _) = _
  rw [if_neg h]
theorem val_sq {n : Nat} (h : n < 281474976710656) : valD (digs (3 + 4) (n * n)) = n ^ 2 := by
  rw [valD_digs (3 + 4) _ (Nat.lt_of_lt_of_le (Nat.mul_lt_mul'' h h) (by decide)), Nat.pow_two]
theorem val_cu {n : Nat} (h : n < 281474976710656) : valD (digs (7 + 4) (n ^ 2 * n)) = n ^ 3 := by
  rw [valD_digs (7 + 4) _ (by rw [← Nat.pow_succ]; exact Nat.lt_of_lt_of_le (Nat.pow_lt_pow_left h (by decide)) (by decide)), Nat.pow_succ n 2]
theorem root_end (p pow : Nat) : IntKind.u32.wrap ((rootR p pow 41 : Int) % 4294967296) = ((rootF p pow).toNat : Int) := by
  have : (rootR p pow 41 : Int) % 4294967296 = ((rootR p pow 41 % 4294967296 : Nat) : Int) := rfl
  rw [this]
  have h : rootR p pow 41 % 4294967296 < 4294967296 := Nat.mod_lt _ (by decide)
  unfold rootF
  rw [UInt32.toNat_ofNat', Nat.mod_eq_of_lt h]
  exact wr_u32 (by omega)

set_option maxHeartbeats 1600000 in
theorem root2_spec (p : Nat) (hp0 : p < 65536) : PureF Tryd.prog 71 [.int .i64 (p : Int), .int .i64 2] (.int .u32 ((rootF p 2).toNat : Int)) := by
  refine PureF.intro go71 Tryd.func71 rfl rfl fun w0 hp => ?_
  refine K_seq ?_
  refine K_region ?_
  refine W_assign rfl rfl ?_
  refine W_nil ?_
  refine N_then_k ?_
  refine K_seq ?_
  refine K_region ?_
  refine W_assign rfl rfl ?_
  refine W_nil ?_
  refine N_then_k ?_
  refine K_seq ?_
  refine K_seq ?_
  refine K_region ?_
  refine W_assign rfl rfl ?_
  refine W_nil ?_
  refine N_then_k ?_
  refine K_block ?_
  refine K_loop (σ := Nat) [5, 6, 7, 8, 9, 10, 11, 12, 13, 14, 15, 16, 17, 18, 19, 20, 21, 22, 23, 24, 25, 26, 27, 28, 29, 30, 31, 32]
      (fun k => [(5, .int .i64 (rootR p 2 k)), (6, .int .i64 ((1099511627776 / 2 ^ k : Nat) : Int))])
      (fun k w => Hp w0 [] [] w ∧ k ≤ 41)
      (fun k => 41 - k) (0) ?_ ?_ ?_
  · repeat' (first | exact sub_lst_nil (sub_nil _) | refine sub_lst rfl ?_ | (refine sub_lst_eq rfl ?_ ?_; · first | rfl | (simp; done) | (congr 1; omega)))
  · exact ⟨hp, by decide⟩
  · intro k w hJ
    clear hp
    obtain ⟨hp, hle⟩ := hJ
    rcases (by omega : k < 41 ∨ k = 41) with hlt | rfl
    all_goals first | (have hbp := bit_pos hlt) | skip
    all_goals (
     refine K_seq ?_
     refine K_seq ?_
     refine K_region ?_
     refine W_move rfl rfl ?_
     skip
     first
       | (refine W_gtr_t rfl rfl ?_ rfl ?_; (focus (omega)))
       | (refine W_gtr_f rfl rfl ?_ rfl ?_; (focus (omega)))
       | (refine W_gtr rfl rfl rfl ?_)
     refine W_nil ?_
     refine N_then_k ?_
     first
       | refine K_cond_d rfl (fun hc1 => ?_) (fun hc1 => ?_)
       | refine K_cond_n rfl (fun hc1 => ?_) (fun hc1 => ?_)
       | refine K_cond_nb rfl (fun hc1 => ?_) (fun hc1 => ?_)
       | refine K_cond_t rfl (fun hc1 => ?_) (fun hc1 => ?_)
     · try (exfalso; first | omega | (simp only [Bool.false_eq_true, reduceCtorEq] at hc1; done) | (refine absurd hc1 ?_; with_reducible assumption) | (refine absurd ?_ hc1; with_reducible assumption))
       all_goals (
        refine K_skip ?_
        refine N_then_k ?_
        refine K_seq ?_
        refine K_block ?_
        refine K_seq ?_
        refine K_region ?_
        refine W_move rfl rfl ?_
        refine W_move rfl rfl ?_
        have hrl := rootR_le p 2 k
        have hbp := bit_pos hlt
        have hbl : 1099511627776 / 2 ^ k ≤ 1099511627776 := Nat.div_le_self _ _
        obtain ⟨n, hnd⟩ : ∃ n, n = rootR p 2 k + 1099511627776 / 2 ^ k := ⟨_, rfl⟩
        have hn : n < 281474976710656 := by generalize 1099511627776 / 2 ^ k = q at *; omega
        refine W_add (r := (n : Int)) rfl rfl (by rw [wr_i64] <;> generalize 1099511627776 / 2 ^ k = q at * <;> omega) rfl ?_
        refine W_bcall hp rfl ((digits_spec w n hn)) rfl ?_
        clear hp; intro v16 G16 w r16 hp
        obtain ⟨D, hD⟩ : ∃ L : List Nat, L = digs 3 n := ⟨_, rfl⟩
        have hDl : D.length = 3 := by rw [hD]; exact digs_length _ _
        have hDs : ∀ x ∈ D, x < 65536 := by rw [hD]; exact digs_lt _ _
        have hDv : valD D = n := by rw [hD]; exact valD_digs 3 n hn
        rw [← hD] at r16
        clear hD
        obtain ⟨A16, c16, rfl⟩ := r16.form
        refine W_assign rfl rfl ?_
        refine W_nil ?_
        refine N_then_k ?_
        refine K_seq ?_
        refine K_region ?_
        refine W_move rfl rfl ?_
        refine W_move rfl rfl ?_
        refine W_bcall hp rfl ((times_spec w D _ _ (OS.rdm (show OS _ _ _ _ _ _ from r16) (fun p hq => hp.own p (by simp [hq]))) D _ _ (OS.rdm (show OS _ _ _ _ _ _ from r16) (fun p hq => hp.own p (by simp [hq]))) hDs hDs (by omega) (by omega) hDl)) rfl ?_
        clear hp; intro v19 G19 w r19 hp
        obtain ⟨E, hE⟩ : ∃ L : List Nat, L = digs (D.length + 4) (valD D * valD D) := ⟨_, rfl⟩
        have hEl : E.length = 7 := by rw [hE]; exact by rw [digs_length, hDl]
        have hEs : ∀ x ∈ E, x < 65536 := by rw [hE]; exact digs_lt _ _
        have hEv : valD E = n ^ 2 := by rw [hE]; exact by rw [hDl, hDv, val_sq hn]
        rw [← hE] at r19
        clear hE
        obtain ⟨A19, c19, rfl⟩ := r19.form
        refine W_assign rfl rfl ?_
        refine W_nil ?_
        refine N_then_k ?_
        refine K_seq ?_
        refine K_seq ?_
        refine K_region ?_
        refine W_move rfl rfl ?_
        first
          | (refine W_eql_t rfl rfl ?_ rfl ?_; (focus (omega)))
          | (refine W_eql_f rfl rfl ?_ rfl ?_; (focus (omega)))
          | (refine W_eql rfl rfl rfl ?_)
        refine W_nil ?_
        refine N_then_k ?_
        first
          | refine K_cond_d rfl (fun hc2 => ?_) (fun hc2 => ?_)
          | refine K_cond_n rfl (fun hc2 => ?_) (fun hc2 => ?_)
          | refine K_cond_nb rfl (fun hc2 => ?_) (fun hc2 => ?_)
          | refine K_cond_t rfl (fun hc2 => ?_) (fun hc2 => ?_)
        · try (exfalso; first | omega | (simp only [Bool.false_eq_true, reduceCtorEq] at hc2; done) | (refine absurd hc2 ?_; with_reducible assumption) | (refine absurd ?_ hc2; with_reducible assumption))
          all_goals (
           refine K_region ?_
           refine W_move rfl rfl ?_
           refine W_move rfl rfl ?_
           refine W_bcall hp rfl ((times_spec w E _ _ (OS.rdm (show OS _ _ _ _ _ _ from r19) (fun p hq => hp.own p (by simp [hq]))) D _ _ (OS.rdm (show OS _ _ _ _ _ _ from r16) (fun p hq => hp.own p (by simp [hq]))) hEs hDs (by omega) (by omega) hDl)) rfl ?_
           clear hp; intro v24 G24 w r24 hp
           obtain ⟨F, hF⟩ : ∃ L : List Nat, L = digs (E.length + 4) (valD E * valD D) := ⟨_, rfl⟩
           have hFl : F.length = 11 := by rw [hF]; exact by rw [digs_length, hEl]
           have hFs : ∀ x ∈ F, x < 65536 := by rw [hF]; exact digs_lt _ _
           have hFv : valD F = n ^ 3 := by rw [hF]; exact by rw [hEl, hEv, hDv, val_cu hn]
           rw [← hF] at r24
           clear hF
           obtain ⟨A24, c24, rfl⟩ := r24.form
           refine W_assign rfl rfl ?_
           refine W_nil ?_
           refine N_then_k ?_
           refine K_seq ?_
           refine K_region ?_
           refine W_move rfl rfl ?_
           refine W_move rfl rfl ?_
           refine W_move rfl rfl ?_
           first
             | (refine W_mul rfl rfl (wr_i64 ?_) rfl ?_; (focus (omega)))
             | (refine W_mul rfl rfl rfl rfl ?_)
           refine W_acall hp rfl ((atMost_spec w E _ _ (OS.rdm (show OS _ _ _ _ _ _ from r19) (fun p hq => hp.own p (by simp [hq]))) p 4 hEs hp0 (by omega) (by omega))) rfl ?_
           clear hp; intro w hp
           refine W_nil ?_
           refine N_then_k ?_
           first
             | refine K_cond_d rfl (fun hc3 => ?_) (fun hc3 => ?_)
             | refine K_cond_n rfl (fun hc3 => ?_) (fun hc3 => ?_)
             | refine K_cond_nb rfl (fun hc3 => ?_) (fun hc3 => ?_)
             | refine K_cond_t rfl (fun hc3 => ?_) (fun hc3 => ?_)
           · try (exfalso; first | omega | (simp only [Bool.false_eq_true, reduceCtorEq] at hc3; done) | (refine absurd hc3 ?_; with_reducible assumption) | (refine absurd ?_ hc3; with_reducible assumption))
             all_goals (
              refine K_region ?_
              refine W_move rfl rfl ?_
              refine W_move rfl rfl ?_
              refine W_add (r := (n : Int)) rfl rfl (by rw [wr_i64] <;> generalize 1099511627776 / 2 ^ k = q at * <;> omega) rfl ?_
              refine W_assign rfl rfl ?_
              refine W_nil ?_
              refine N_block_normal ?_
              refine N_then_k ?_
              refine K_region ?_
              refine W_move rfl rfl ?_
              refine W_quo (r := ((1099511627776 / 2 ^ (k + 1) : Nat) : Int)) rfl rfl (by decide) (by rw [bit_next]; have hbl : 1099511627776 / 2 ^ k ≤ 1099511627776 := Nat.div_le_self _ _; generalize 1099511627776 / 2 ^ k = q at *; exact quo_nn (by omega) (wr_i64 (by omega))) rfl ?_
              refine W_assign rfl rfl ?_
              refine W_nil ?_
              have hV : valD (E) = n ^ 2 := hEv
              first
                | (have hy : rootR p 2 (k + 1) = n := by rw [rootR_yes (by rw [← hnd, ← hV]; assumption), ← hnd]
                   refine N_again (k + 1) (sub_end ?_ ?_) ⟨hp.nil, hlt⟩ (by omega)
                   · repeat' (first | exact sub_lst_nil (sub_nil _) | refine sub_lst rfl ?_ | (refine sub_lst_eq rfl ?_ ?_; · rw [hy]))
                   · repeat' (first | exact sub_refl _ | exact sub_strip _ _ | refine sub_s_cons rfl ?_ | refine sub_s_lst rfl ?_ | refine sub_s_strip rfl ?_)
                   all_goals skip)
                | (have hy : rootR p 2 (k + 1) = rootR p 2 k := rootR_no (by rw [← hnd, ← hV]; assumption)
                   refine N_again (k + 1) (sub_end ?_ ?_) ⟨hp.nil, hlt⟩ (by omega)
                   · repeat' (first | exact sub_lst_nil (sub_nil _) | refine sub_lst rfl ?_ | (refine sub_lst_eq rfl ?_ ?_; · rw [hy]))
                   · repeat' (first | exact sub_refl _ | exact sub_strip _ _ | refine sub_s_cons rfl ?_ | refine sub_s_lst rfl ?_ | refine sub_s_strip rfl ?_)
                   all_goals skip))
           · try (exfalso; first | omega | (simp only [Bool.false_eq_true, reduceCtorEq] at hc3; done) | (refine absurd hc3 ?_; with_reducible assumption) | (refine absurd ?_ hc3; with_reducible assumption))
             all_goals (
              refine K_skip ?_
              refine N_block_normal ?_
              refine N_then_k ?_
              refine K_region ?_
              refine W_move rfl rfl ?_
              refine W_quo (r := ((1099511627776 / 2 ^ (k + 1) : Nat) : Int)) rfl rfl (by decide) (by rw [bit_next]; have hbl : 1099511627776 / 2 ^ k ≤ 1099511627776 := Nat.div_le_self _ _; generalize 1099511627776 / 2 ^ k = q at *; exact quo_nn (by omega) (wr_i64 (by omega))) rfl ?_
              refine W_assign rfl rfl ?_
              refine W_nil ?_
              have hV : valD (E) = n ^ 2 := hEv
              first
                | (have hy : rootR p 2 (k + 1) = n := by rw [rootR_yes (by rw [← hnd, ← hV]; assumption), ← hnd]
                   refine N_again (k + 1) (sub_end ?_ ?_) ⟨hp.nil, hlt⟩ (by omega)
                   · repeat' (first | exact sub_lst_nil (sub_nil _) | refine sub_lst rfl ?_ | (refine sub_lst_eq rfl ?_ ?_; · rw [hy]))
                   · repeat' (first | exact sub_refl _ | exact sub_strip _ _ | refine sub_s_cons rfl ?_ | refine sub_s_lst rfl ?_ | refine sub_s_strip rfl ?_)
                   all_goals skip)
                | (have hy : rootR p 2 (k + 1) = rootR p 2 k := rootR_no (by rw [← hnd, ← hV]; assumption)
                   refine N_again (k + 1) (sub_end ?_ ?_) ⟨hp.nil, hlt⟩ (by omega)
                   · repeat' (first | exact sub_lst_nil (sub_nil _) | refine sub_lst rfl ?_ | (refine sub_lst_eq rfl ?_ ?_; · rw [hy]))
                   · repeat' (first | exact sub_refl _ | exact sub_strip _ _ | refine sub_s_cons rfl ?_ | refine sub_s_lst rfl ?_ | refine sub_s_strip rfl ?_)
                   all_goals skip)))
        · try (exfalso; first | omega | (simp only [Bool.false_eq_true, reduceCtorEq] at hc2; done) | (refine absurd hc2 ?_; with_reducible assumption) | (refine absurd ?_ hc2; with_reducible assumption))
          all_goals (
           refine K_skip ?_
           refine N_then_k ?_
           refine K_seq ?_
           refine K_region ?_
           refine W_move rfl rfl ?_
           refine W_move rfl rfl ?_
           refine W_move rfl rfl ?_
           first
             | (refine W_mul rfl rfl (wr_i64 ?_) rfl ?_; (focus (omega)))
             | (refine W_mul rfl rfl rfl rfl ?_)
           refine W_acall hp rfl ((atMost_spec w E _ _ (OS.rdm (show OS _ _ _ _ _ _ from r19) (fun p hq => hp.own p (by simp [hq]))) p 4 hEs hp0 (by omega) (by omega))) rfl ?_
           clear hp; intro w hp
           refine W_nil ?_
           refine N_then_k ?_
           first
             | refine K_cond_d rfl (fun hc4 => ?_) (fun hc4 => ?_)
             | refine K_cond_n rfl (fun hc4 => ?_) (fun hc4 => ?_)
             | refine K_cond_nb rfl (fun hc4 => ?_) (fun hc4 => ?_)
             | refine K_cond_t rfl (fun hc4 => ?_) (fun hc4 => ?_)
           · try (exfalso; first | omega | (simp only [Bool.false_eq_true, reduceCtorEq] at hc4; done) | (refine absurd hc4 ?_; with_reducible assumption) | (refine absurd ?_ hc4; with_reducible assumption))
             all_goals (
              refine K_region ?_
              refine W_move rfl rfl ?_
              refine W_move rfl rfl ?_
              refine W_add (r := (n : Int)) rfl rfl (by rw [wr_i64] <;> generalize 1099511627776 / 2 ^ k = q at * <;> omega) rfl ?_
              refine W_assign rfl rfl ?_
              refine W_nil ?_
              refine N_block_normal ?_
              refine N_then_k ?_
              refine K_region ?_
              refine W_move rfl rfl ?_
              refine W_quo (r := ((1099511627776 / 2 ^ (k + 1) : Nat) : Int)) rfl rfl (by decide) (by rw [bit_next]; have hbl : 1099511627776 / 2 ^ k ≤ 1099511627776 := Nat.div_le_self _ _; generalize 1099511627776 / 2 ^ k = q at *; exact quo_nn (by omega) (wr_i64 (by omega))) rfl ?_
              refine W_assign rfl rfl ?_
              refine W_nil ?_
              have hV : valD (E) = n ^ 2 := hEv
              first
                | (have hy : rootR p 2 (k + 1) = n := by rw [rootR_yes (by rw [← hnd, ← hV]; assumption), ← hnd]
                   refine N_again (k + 1) (sub_end ?_ ?_) ⟨hp.nil, hlt⟩ (by omega)
                   · repeat' (first | exact sub_lst_nil (sub_nil _) | refine sub_lst rfl ?_ | (refine sub_lst_eq rfl ?_ ?_; · rw [hy]))
                   · repeat' (first | exact sub_refl _ | exact sub_strip _ _ | refine sub_s_cons rfl ?_ | refine sub_s_lst rfl ?_ | refine sub_s_strip rfl ?_)
                   all_goals skip)
                | (have hy : rootR p 2 (k + 1) = rootR p 2 k := rootR_no (by rw [← hnd, ← hV]; assumption)
                   refine N_again (k + 1) (sub_end ?_ ?_) ⟨hp.nil, hlt⟩ (by omega)
                   · repeat' (first | exact sub_lst_nil (sub_nil _) | refine sub_lst rfl ?_ | (refine sub_lst_eq rfl ?_ ?_; · rw [hy]))
                   · repeat' (first | exact sub_refl _ | exact sub_strip _ _ | refine sub_s_cons rfl ?_ | refine sub_s_lst rfl ?_ | refine sub_s_strip rfl ?_)
                   all_goals skip))
           · try (exfalso; first | omega | (simp only [Bool.false_eq_true, reduceCtorEq] at hc4; done) | (refine absurd hc4 ?_; with_reducible assumption) | (refine absurd ?_ hc4; with_reducible assumption))
             all_goals (
              refine K_skip ?_
              refine N_block_normal ?_
              refine N_then_k ?_
              refine K_region ?_
              refine W_move rfl rfl ?_
              refine W_quo (r := ((1099511627776 / 2 ^ (k + 1) : Nat) : Int)) rfl rfl (by decide) (by rw [bit_next]; have hbl : 1099511627776 / 2 ^ k ≤ 1099511627776 := Nat.div_le_self _ _; generalize 1099511627776 / 2 ^ k = q at *; exact quo_nn (by omega) (wr_i64 (by omega))) rfl ?_
              refine W_assign rfl rfl ?_
              refine W_nil ?_
              have hV : valD (E) = n ^ 2 := hEv
              first
                | (have hy : rootR p 2 (k + 1) = n := by rw [rootR_yes (by rw [← hnd, ← hV]; assumption), ← hnd]
                   refine N_again (k + 1) (sub_end ?_ ?_) ⟨hp.nil, hlt⟩ (by omega)
                   · repeat' (first | exact sub_lst_nil (sub_nil _) | refine sub_lst rfl ?_ | (refine sub_lst_eq rfl ?_ ?_; · rw [hy]))
                   · repeat' (first | exact sub_refl _ | exact sub_strip _ _ | refine sub_s_cons rfl ?_ | refine sub_s_lst rfl ?_ | refine sub_s_strip rfl ?_)
                   all_goals skip)
                | (have hy : rootR p 2 (k + 1) = rootR p 2 k := rootR_no (by rw [← hnd, ← hV]; assumption)
                   refine N_again (k + 1) (sub_end ?_ ?_) ⟨hp.nil, hlt⟩ (by omega)
                   · repeat' (first | exact sub_lst_nil (sub_nil _) | refine sub_lst rfl ?_ | (refine sub_lst_eq rfl ?_ ?_; · rw [hy]))
                   · repeat' (first | exact sub_refl _ | exact sub_strip _ _ | refine sub_s_cons rfl ?_ | refine sub_s_lst rfl ?_ | refine sub_s_strip rfl ?_)
                   all_goals skip))))
     · try (exfalso; first | omega | (simp only [Bool.false_eq_true, reduceCtorEq] at hc1; done) | (refine absurd hc1 ?_; with_reducible assumption) | (refine absurd ?_ hc1; with_reducible assumption))
       all_goals (
        refine K_exit ?_
        refine N_then_exit ?_
        refine N_then_exit ?_
        refine N_block_exit ?_
        refine N_then_k ?_
        refine K_seq ?_
        refine K_region ?_
        refine W_move rfl rfl ?_
        refine W_rem rfl rfl (by decide) (rem_nn (by omega)) rfl ?_
        refine W_conv_i Tryd.underlying3 Tryd.underlying75 rfl (root_end p 2) rfl ?_
        refine W_assign rfl rfl ?_
        refine W_nil ?_
        refine N_then_k ?_
        refine K_ret ?_
        refine N_done1 (.inr rfl) rfl rfl ?_
        exact ⟨_, rfl, rfl, hp.nil⟩))

set_option maxHeartbeats 1600000 in
theorem root3_spec (p : Nat) (hp0 : p < 65536) : PureF Tryd.prog 71 [.int .i64 (p : Int), .int .i64 3] (.int .u32 ((rootF p 3).toNat : Int)) := by
  refine PureF.intro go71 Tryd.func71 rfl rfl fun w0 hp => ?_
  refine K_seq ?_
  refine K_region ?_
  refine W_assign rfl rfl ?_
  refine W_nil ?_
  refine N_then_k ?_
  refine K_seq ?_
  refine K_region ?_
  refine W_assign rfl rfl ?_
  refine W_nil ?_
  refine N_then_k ?_
  refine K_seq ?_
  refine K_seq ?_
  refine K_region ?_
  refine W_assign rfl rfl ?_
  refine W_nil ?_
  refine N_then_k ?_
  refine K_block ?_
  refine K_loop (σ := Nat) [5, 6, 7, 8, 9, 10, 11, 12, 13, 14, 15, 16, 17, 18, 19, 20, 21, 22, 23, 24, 25, 26, 27, 28, 29, 30, 31, 32]
      (fun k => [(5, .int .i64 (rootR p 3 k)), (6, .int .i64 ((1099511627776 / 2 ^ k : Nat) : Int))])
      (fun k w => Hp w0 [] [] w ∧ k ≤ 41)
      (fun k => 41 - k) (0) ?_ ?_ ?_
  · repeat' (first | exact sub_lst_nil (sub_nil _) | refine sub_lst rfl ?_ | (refine sub_lst_eq rfl ?_ ?_; · first | rfl | (simp; done) | (congr 1; omega)))
  · exact ⟨hp, by decide⟩
  · intro k w hJ
    clear hp
    obtain ⟨hp, hle⟩ := hJ
    rcases (by omega : k < 41 ∨ k = 41) with hlt | rfl
    all_goals first | (have hbp := bit_pos hlt) | skip
    all_goals (
     refine K_seq ?_
     refine K_seq ?_
     refine K_region ?_
     refine W_move rfl rfl ?_
     skip
     first
       | (refine W_gtr_t rfl rfl ?_ rfl ?_; (focus (omega)))
       | (refine W_gtr_f rfl rfl ?_ rfl ?_; (focus (omega)))
       | (refine W_gtr rfl rfl rfl ?_)
     refine W_nil ?_
     refine N_then_k ?_
     first
       | refine K_cond_d rfl (fun hc1 => ?_) (fun hc1 => ?_)
       | refine K_cond_n rfl (fun hc1 => ?_) (fun hc1 => ?_)
       | refine K_cond_nb rfl (fun hc1 => ?_) (fun hc1 => ?_)
       | refine K_cond_t rfl (fun hc1 => ?_) (fun hc1 => ?_)
     · try (exfalso; first | omega | (simp only [Bool.false_eq_true, reduceCtorEq] at hc1; done) | (refine absurd hc1 ?_; with_reducible assumption) | (refine absurd ?_ hc1; with_reducible assumption))
       all_goals (
        refine K_skip ?_
        refine N_then_k ?_
        refine K_seq ?_
        refine K_block ?_
        refine K_seq ?_
        refine K_region ?_
        refine W_move rfl rfl ?_
        refine W_move rfl rfl ?_
        have hrl := rootR_le p 3 k
        have hbp := bit_pos hlt
        have hbl : 1099511627776 / 2 ^ k ≤ 1099511627776 := Nat.div_le_self _ _
        obtain ⟨n, hnd⟩ : ∃ n, n = rootR p 3 k + 1099511627776 / 2 ^ k := ⟨_, rfl⟩
        have hn : n < 281474976710656 := by generalize 1099511627776 / 2 ^ k = q at *; omega
        refine W_add (r := (n : Int)) rfl rfl (by rw [wr_i64] <;> generalize 1099511627776 / 2 ^ k = q at * <;> omega) rfl ?_
        refine W_bcall hp rfl ((digits_spec w n hn)) rfl ?_
        clear hp; intro v16 G16 w r16 hp
        obtain ⟨D, hD⟩ : ∃ L : List Nat, L = digs 3 n := ⟨_, rfl⟩
        have hDl : D.length = 3 := by rw [hD]; exact digs_length _ _
        have hDs : ∀ x ∈ D, x < 65536 := by rw [hD]; exact digs_lt _ _
        have hDv : valD D = n := by rw [hD]; exact valD_digs 3 n hn
        rw [← hD] at r16
        clear hD
        obtain ⟨A16, c16, rfl⟩ := r16.form
        refine W_assign rfl rfl ?_
        refine W_nil ?_
        refine N_then_k ?_
        refine K_seq ?_
        refine K_region ?_
        refine W_move rfl rfl ?_
        refine W_move rfl rfl ?_
        refine W_bcall hp rfl ((times_spec w D _ _ (OS.rdm (show OS _ _ _ _ _ _ from r16) (fun p hq => hp.own p (by simp [hq]))) D _ _ (OS.rdm (show OS _ _ _ _ _ _ from r16) (fun p hq => hp.own p (by simp [hq]))) hDs hDs (by omega) (by omega) hDl)) rfl ?_
        clear hp; intro v19 G19 w r19 hp
        obtain ⟨E, hE⟩ : ∃ L : List Nat, L = digs (D.length + 4) (valD D * valD D) := ⟨_, rfl⟩
        have hEl : E.length = 7 := by rw [hE]; exact by rw [digs_length, hDl]
        have hEs : ∀ x ∈ E, x < 65536 := by rw [hE]; exact digs_lt _ _
        have hEv : valD E = n ^ 2 := by rw [hE]; exact by rw [hDl, hDv, val_sq hn]
        rw [← hE] at r19
        clear hE
        obtain ⟨A19, c19, rfl⟩ := r19.form
        refine W_assign rfl rfl ?_
        refine W_nil ?_
        refine N_then_k ?_
        refine K_seq ?_
        refine K_seq ?_
        refine K_region ?_
        refine W_move rfl rfl ?_
        first
          | (refine W_eql_t rfl rfl ?_ rfl ?_; (focus (omega)))
          | (refine W_eql_f rfl rfl ?_ rfl ?_; (focus (omega)))
          | (refine W_eql rfl rfl rfl ?_)
        refine W_nil ?_
        refine N_then_k ?_
        first
          | refine K_cond_d rfl (fun hc2 => ?_) (fun hc2 => ?_)
          | refine K_cond_n rfl (fun hc2 => ?_) (fun hc2 => ?_)
          | refine K_cond_nb rfl (fun hc2 => ?_) (fun hc2 => ?_)
          | refine K_cond_t rfl (fun hc2 => ?_) (fun hc2 => ?_)
        · try (exfalso; first | omega | (simp only [Bool.false_eq_true, reduceCtorEq] at hc2; done) | (refine absurd hc2 ?_; with_reducible assumption) | (refine absurd ?_ hc2; with_reducible assumption))
          all_goals (
           refine K_region ?_
           refine W_move rfl rfl ?_
           refine W_move rfl rfl ?_
           refine W_bcall hp rfl ((times_spec w E _ _ (OS.rdm (show OS _ _ _ _ _ _ from r19) (fun p hq => hp.own p (by simp [hq]))) D _ _ (OS.rdm (show OS _ _ _ _ _ _ from r16) (fun p hq => hp.own p (by simp [hq]))) hEs hDs (by omega) (by omega) hDl)) rfl ?_
           clear hp; intro v24 G24 w r24 hp
           obtain ⟨F, hF⟩ : ∃ L : List Nat, L = digs (E.length + 4) (valD E * valD D) := ⟨_, rfl⟩
           have hFl : F.length = 11 := by rw [hF]; exact by rw [digs_length, hEl]
           have hFs : ∀ x ∈ F, x < 65536 := by rw [hF]; exact digs_lt _ _
           have hFv : valD F = n ^ 3 := by rw [hF]; exact by rw [hEl, hEv, hDv, val_cu hn]
           rw [← hF] at r24
           clear hF
           obtain ⟨A24, c24, rfl⟩ := r24.form
           refine W_assign rfl rfl ?_
           refine W_nil ?_
           refine N_then_k ?_
           refine K_seq ?_
           refine K_region ?_
           refine W_move rfl rfl ?_
           refine W_move rfl rfl ?_
           refine W_move rfl rfl ?_
           first
             | (refine W_mul rfl rfl (wr_i64 ?_) rfl ?_; (focus (omega)))
             | (refine W_mul rfl rfl rfl rfl ?_)
           refine W_acall hp rfl ((atMost_spec w F _ _ (OS.rdm (show OS _ _ _ _ _ _ from r24) (fun p hq => hp.own p (by simp [hq]))) p 6 hFs hp0 (by omega) (by omega))) rfl ?_
           clear hp; intro w hp
           refine W_nil ?_
           refine N_then_k ?_
           first
             | refine K_cond_d rfl (fun hc3 => ?_) (fun hc3 => ?_)
             | refine K_cond_n rfl (fun hc3 => ?_) (fun hc3 => ?_)
             | refine K_cond_nb rfl (fun hc3 => ?_) (fun hc3 => ?_)
             | refine K_cond_t rfl (fun hc3 => ?_) (fun hc3 => ?_)
           · try (exfalso; first | omega | (simp only [Bool.false_eq_true, reduceCtorEq] at hc3; done) | (refine absurd hc3 ?_; with_reducible assumption) | (refine absurd ?_ hc3; with_reducible assumption))
             all_goals (
              refine K_region ?_
              refine W_move rfl rfl ?_
              refine W_move rfl rfl ?_
              refine W_add (r := (n : Int)) rfl rfl (by rw [wr_i64] <;> generalize 1099511627776 / 2 ^ k = q at * <;> omega) rfl ?_
              refine W_assign rfl rfl ?_
              refine W_nil ?_
              refine N_block_normal ?_
              refine N_then_k ?_
              refine K_region ?_
              refine W_move rfl rfl ?_
              refine W_quo (r := ((1099511627776 / 2 ^ (k + 1) : Nat) : Int)) rfl rfl (by decide) (by rw [bit_next]; have hbl : 1099511627776 / 2 ^ k ≤ 1099511627776 := Nat.div_le_self _ _; generalize 1099511627776 / 2 ^ k = q at *; exact quo_nn (by omega) (wr_i64 (by omega))) rfl ?_
              refine W_assign rfl rfl ?_
              refine W_nil ?_
              have hV : valD (F) = n ^ 3 := hFv
              first
                | (have hy : rootR p 3 (k + 1) = n := by rw [rootR_yes (by rw [← hnd, ← hV]; assumption), ← hnd]
                   refine N_again (k + 1) (sub_end ?_ ?_) ⟨hp.nil, hlt⟩ (by omega)
                   · repeat' (first | exact sub_lst_nil (sub_nil _) | refine sub_lst rfl ?_ | (refine sub_lst_eq rfl ?_ ?_; · rw [hy]))
                   · repeat' (first | exact sub_refl _ | exact sub_strip _ _ | refine sub_s_cons rfl ?_ | refine sub_s_lst rfl ?_ | refine sub_s_strip rfl ?_)
                   all_goals skip)
                | (have hy : rootR p 3 (k + 1) = rootR p 3 k := rootR_no (by rw [← hnd, ← hV]; assumption)
                   refine N_again (k + 1) (sub_end ?_ ?_) ⟨hp.nil, hlt⟩ (by omega)
                   · repeat' (first | exact sub_lst_nil (sub_nil _) | refine sub_lst rfl ?_ | (refine sub_lst_eq rfl ?_ ?_; · rw [hy]))
                   · repeat' (first | exact sub_refl _ | exact sub_strip _ _ | refine sub_s_cons rfl ?_ | refine sub_s_lst rfl ?_ | refine sub_s_strip rfl ?_)
                   all_goals skip))
           · try (exfalso; first | omega | (simp only [Bool.false_eq_true, reduceCtorEq] at hc3; done) | (refine absurd hc3 ?_; with_reducible assumption) | (refine absurd ?_ hc3; with_reducible assumption))
             all_goals (
              refine K_skip ?_
              refine N_block_normal ?_
              refine N_then_k ?_
              refine K_region ?_
              refine W_move rfl rfl ?_
              refine W_quo (r := ((1099511627776 / 2 ^ (k + 1) : Nat) : Int)) rfl rfl (by decide) (by rw [bit_next]; have hbl : 1099511627776 / 2 ^ k ≤ 1099511627776 := Nat.div_le_self _ _; generalize 1099511627776 / 2 ^ k = q at *; exact quo_nn (by omega) (wr_i64 (by omega))) rfl ?_
              refine W_assign rfl rfl ?_
              refine W_nil ?_
              have hV : valD (F) = n ^ 3 := hFv
              first
                | (have hy : rootR p 3 (k + 1) = n := by rw [rootR_yes (by rw [← hnd, ← hV]; assumption), ← hnd]
                   refine N_again (k + 1) (sub_end ?_ ?_) ⟨hp.nil, hlt⟩ (by omega)
                   · repeat' (first | exact sub_lst_nil (sub_nil _) | refine sub_lst rfl ?_ | (refine sub_lst_eq rfl ?_ ?_; · rw [hy]))
                   · repeat' (first | exact sub_refl _ | exact sub_strip _ _ | refine sub_s_cons rfl ?_ | refine sub_s_lst rfl ?_ | refine sub_s_strip rfl ?_)
                   all_goals skip)
                | (have hy : rootR p 3 (k + 1) = rootR p 3 k := rootR_no (by rw [← hnd, ← hV]; assumption)
                   refine N_again (k + 1) (sub_end ?_ ?_) ⟨hp.nil, hlt⟩ (by omega)
                   · repeat' (first | exact sub_lst_nil (sub_nil _) | refine sub_lst rfl ?_ | (refine sub_lst_eq rfl ?_ ?_; · rw [hy]))
                   · repeat' (first | exact sub_refl _ | exact sub_strip _ _ | refine sub_s_cons rfl ?_ | refine sub_s_lst rfl ?_ | refine sub_s_strip rfl ?_)
                   all_goals skip)))
        · try (exfalso; first | omega | (simp only [Bool.false_eq_true, reduceCtorEq] at hc2; done) | (refine absurd hc2 ?_; with_reducible assumption) | (refine absurd ?_ hc2; with_reducible assumption))
          all_goals (
           refine K_skip ?_
           refine N_then_k ?_
           refine K_seq ?_
           refine K_region ?_
           refine W_move rfl rfl ?_
           refine W_move rfl rfl ?_
           refine W_move rfl rfl ?_
           first
             | (refine W_mul rfl rfl (wr_i64 ?_) rfl ?_; (focus (omega)))
             | (refine W_mul rfl rfl rfl rfl ?_)
           refine W_acall hp rfl ((atMost_spec w F _ _ (OS.rdm (show OS _ _ _ _ _ _ from r24) (fun p hq => hp.own p (by simp [hq]))) p 6 hFs hp0 (by omega) (by omega))) rfl ?_
           clear hp; intro w hp
           refine W_nil ?_
           refine N_then_k ?_
           first
             | refine K_cond_d rfl (fun hc4 => ?_) (fun hc4 => ?_)
             | refine K_cond_n rfl (fun hc4 => ?_) (fun hc4 => ?_)
             | refine K_cond_nb rfl (fun hc4 => ?_) (fun hc4 => ?_)
             | refine K_cond_t rfl (fun hc4 => ?_) (fun hc4 => ?_)
           · try (exfalso; first | omega | (simp only [Bool.false_eq_true, reduceCtorEq] at hc4; done) | (refine absurd hc4 ?_; with_reducible assumption) | (refine absurd ?_ hc4; with_reducible assumption))
             all_goals (
              refine K_region ?_
              refine W_move rfl rfl ?_
              refine W_move rfl rfl ?_
              refine W_add (r := (n : Int)) rfl rfl (by rw [wr_i64] <;> generalize 1099511627776 / 2 ^ k = q at * <;> omega) rfl ?_
              refine W_assign rfl rfl ?_
              refine W_nil ?_
              refine N_block_normal ?_
              refine N_then_k ?_
              refine K_region ?_
              refine W_move rfl rfl ?_
              refine W_quo (r := ((1099511627776 / 2 ^ (k + 1) : Nat) : Int)) rfl rfl (by decide) (by rw [bit_next]; have hbl : 1099511627776 / 2 ^ k ≤ 1099511627776 := Nat.div_le_self _ _; generalize 1099511627776 / 2 ^ k = q at *; exact quo_nn (by omega) (wr_i64 (by omega))) rfl ?_
              refine W_assign rfl rfl ?_
              refine W_nil ?_
              have hV : valD (F) = n ^ 3 := hFv
              first
                | (have hy : rootR p 3 (k + 1) = n := by rw [rootR_yes (by rw [← hnd, ← hV]; assumption), ← hnd]
                   refine N_again (k + 1) (sub_end ?_ ?_) ⟨hp.nil, hlt⟩ (by omega)
                   · repeat' (first | exact sub_lst_nil (sub_nil _) | refine sub_lst rfl ?_ | (refine sub_lst_eq rfl ?_ ?_; · rw [hy]))
                   · repeat' (first | exact sub_refl _ | exact sub_strip _ _ | refine sub_s_cons rfl ?_ | refine sub_s_lst rfl ?_ | refine sub_s_strip rfl ?_)
                   all_goals skip)
                | (have hy : rootR p 3 (k + 1) = rootR p 3 k := rootR_no (by rw [← hnd, ← hV]; assumption)
                   refine N_again (k + 1) (sub_end ?_ ?_) ⟨hp.nil, hlt⟩ (by omega)
                   · repeat' (first | exact sub_lst_nil (sub_nil _) | refine sub_lst rfl ?_ | (refine sub_lst_eq rfl ?_ ?_; · rw [hy]))
                   · repeat' (first | exact sub_refl _ | exact sub_strip _ _ | refine sub_s_cons rfl ?_ | refine sub_s_lst rfl ?_ | refine sub_s_strip rfl ?_)
                   all_goals skip))
           · try (exfalso; first | omega | (simp only [Bool.false_eq_true, reduceCtorEq] at hc4; done) | (refine absurd hc4 ?_; with_reducible assumption) | (refine absurd ?_ hc4; with_reducible assumption))
             all_goals (
              refine K_skip ?_
              refine N_block_normal ?_
              refine N_then_k ?_
              refine K_region ?_
              refine W_move rfl rfl ?_
              refine W_quo (r := ((1099511627776 / 2 ^ (k + 1) : Nat) : Int)) rfl rfl (by decide) (by rw [bit_next]; have hbl : 1099511627776 / 2 ^ k ≤ 1099511627776 := Nat.div_le_self _ _; generalize 1099511627776 / 2 ^ k = q at *; exact quo_nn (by omega) (wr_i64 (by omega))) rfl ?_
              refine W_assign rfl rfl ?_
              refine W_nil ?_
              have hV : valD (F) = n ^ 3 := hFv
              first
                | (have hy : rootR p 3 (k + 1) = n := by rw [rootR_yes (by rw [← hnd, ← hV]; assumption), ← hnd]
                   refine N_again (k + 1) (sub_end ?_ ?_) ⟨hp.nil, hlt⟩ (by omega)
                   · repeat' (first | exact sub_lst_nil (sub_nil _) | refine sub_lst rfl ?_ | (refine sub_lst_eq rfl ?_ ?_; · rw [hy]))
                   · repeat' (first | exact sub_refl _ | exact sub_strip _ _ | refine sub_s_cons rfl ?_ | refine sub_s_lst rfl ?_ | refine sub_s_strip rfl ?_)
                   all_goals skip)
                | (have hy : rootR p 3 (k + 1) = rootR p 3 k := rootR_no (by rw [← hnd, ← hV]; assumption)
                   refine N_again (k + 1) (sub_end ?_ ?_) ⟨hp.nil, hlt⟩ (by omega)
                   · repeat' (first | exact sub_lst_nil (sub_nil _) | refine sub_lst rfl ?_ | (refine sub_lst_eq rfl ?_ ?_; · rw [hy]))
                   · repeat' (first | exact sub_refl _ | exact sub_strip _ _ | refine sub_s_cons rfl ?_ | refine sub_s_lst rfl ?_ | refine sub_s_strip rfl ?_)
                   all_goals skip))))
     · try (exfalso; first | omega | (simp only [Bool.false_eq_true, reduceCtorEq] at hc1; done) | (refine absurd hc1 ?_; with_reducible assumption) | (refine absurd ?_ hc1; with_reducible assumption))
       all_goals (
        refine K_exit ?_
        refine N_then_exit ?_
        refine N_then_exit ?_
        refine N_block_exit ?_
        refine N_then_k ?_
        refine K_seq ?_
        refine K_region ?_
        refine W_move rfl rfl ?_
        refine W_rem rfl rfl (by decide) (rem_nn (by omega)) rfl ?_
        refine W_conv_i Tryd.underlying3 Tryd.underlying75 rfl (root_end p 3) rfl ?_
        refine W_assign rfl rfl ?_
        refine W_nil ?_
        refine N_then_k ?_
        refine K_ret ?_
        refine N_done1 (.inr rfl) rfl rfl ?_
        exact ⟨_, rfl, rfl, hp.nil⟩))

theorem turn_spec (x : UInt32) (n : Nat) (hn : n ≤ 31) : PureF Tryd.prog 72 [.int .u32 (x.toNat : Int), .int .i64 (n : Int)] (.int .u32 ((rotr n x).toNat : Int)) := by
  refine PureF.intro go72 Tryd.func72 rfl rfl fun w0 hp => ?_
  refine K_seq ?_
  refine K_region ?_
  refine W_assign rfl rfl ?_
  refine W_nil ?_
  refine N_then_k ?_
  refine K_seq ?_
  refine K_seq ?_
  refine K_region ?_
  refine W_assign rfl rfl ?_
  refine W_nil ?_
  refine N_then_k ?_
  refine K_block ?_
  refine K_loop (σ := Nat) [0, 5, 6, 7, 8, 9, 10, 11, 12, 13, 14, 15, 16]
      (fun k => [(0, .int .u32 ((rotr k x).toNat : Int)), (5, .int .i64 k)])
      (fun k w => Hp w0 [] [] w ∧ k ≤ n)
      (fun k => n - k) (0) ?_ ?_ ?_
  · repeat' (first | exact sub_lst_nil (sub_nil _) | refine sub_lst rfl ?_ | (refine sub_lst_eq rfl ?_ ?_; · first | rfl | ((rw [rotr_zero])) | (simp; done) | (congr 1; omega)))
  · exact ⟨hp, Nat.zero_le _⟩
  · intro k w hJ
    clear hp
    obtain ⟨hp, hle⟩ := hJ
    rcases Nat.lt_or_ge k n with hlt | hge
    all_goals (
     refine K_seq ?_
     refine K_seq ?_
     refine K_region ?_
     refine W_move rfl rfl ?_
     refine W_move rfl rfl ?_
     first
       | (refine W_lss_t rfl rfl ?_ rfl ?_; (focus (omega)))
       | (refine W_lss_f rfl rfl ?_ rfl ?_; (focus (omega)))
       | (refine W_lss rfl rfl rfl ?_)
     refine W_nil ?_
     refine N_then_k ?_
     first
       | refine K_cond_d rfl (fun hc1 => ?_) (fun hc1 => ?_)
       | refine K_cond_n rfl (fun hc1 => ?_) (fun hc1 => ?_)
       | refine K_cond_nb rfl (fun hc1 => ?_) (fun hc1 => ?_)
       | refine K_cond_t rfl (fun hc1 => ?_) (fun hc1 => ?_)
     · try (exfalso; first | omega | (simp only [Bool.false_eq_true, reduceCtorEq] at hc1; done) | (refine absurd hc1 ?_; with_reducible assumption) | (refine absurd ?_ hc1; with_reducible assumption))
       all_goals (
        refine K_skip ?_
        refine N_then_k ?_
        refine K_seq ?_
        refine K_block ?_
        refine K_region ?_
        have hy := (rotr k x).toNat_lt
        have hsu := rotr_succ (n := k) (by omega) x
        refine W_move rfl rfl ?_
        first
          | (refine W_quo rfl rfl ?_ (quo_nn ?_ (wr_u32 ?_)) rfl ?_; (focus (omega)); (focus (omega)); (focus (omega)))
          | (refine W_quo rfl rfl ?_ rfl rfl ?_; (focus (omega)))
        refine W_move rfl rfl ?_
        first
          | (refine W_rem rfl rfl ?_ (rem_nn ?_) rfl ?_; (focus (omega)); (focus (omega)))
          | (refine W_rem rfl rfl ?_ rfl rfl ?_; (focus (omega)))
        first
          | (refine W_mul rfl rfl (wr_u32 ?_) rfl ?_; (focus (omega)))
          | (refine W_mul rfl rfl rfl rfl ?_)
        first
          | (refine W_add rfl rfl (wr_u32 ?_) rfl ?_; (focus (omega)))
          | (refine W_add rfl rfl rfl rfl ?_)
        refine W_assign rfl rfl ?_
        refine W_nil ?_
        refine N_block_normal ?_
        refine N_then_k ?_
        refine K_region ?_
        refine W_move rfl rfl ?_
        first
          | (refine W_add rfl rfl (wr_i64 ?_) rfl ?_; (focus (omega)))
          | (refine W_add rfl rfl rfl rfl ?_)
        refine W_assign rfl rfl ?_
        refine W_nil ?_
        refine N_again (k + 1) (sub_end ?_ ?_) ?_ ?_
        · repeat' (first | exact sub_lst_nil (sub_nil _) | refine sub_lst rfl ?_ | (refine sub_lst_eq rfl ?_ ?_; · first | rfl | ((refine congrArg (Value.int .u32) ?_; rw [hsu]; omega)) | (simp; done) | (congr 1; omega)))
        · repeat' (first | exact sub_refl _ | exact sub_strip _ _ | refine sub_s_cons rfl ?_ | refine sub_s_lst rfl ?_ | refine sub_s_strip rfl ?_)
        · exact ⟨hp, hlt⟩
        · omega)
     · try (exfalso; first | omega | (simp only [Bool.false_eq_true, reduceCtorEq] at hc1; done) | (refine absurd hc1 ?_; with_reducible assumption) | (refine absurd ?_ hc1; with_reducible assumption))
       all_goals (
        refine K_exit ?_
        refine N_then_exit ?_
        refine N_then_exit ?_
        refine N_block_exit ?_
        refine N_then_k ?_
        refine K_seq ?_
        refine K_region ?_
        refine W_move rfl rfl ?_
        refine W_assign rfl rfl ?_
        refine W_nil ?_
        refine N_then_k ?_
        refine K_ret ?_
        refine N_done1 (.inr rfl) rfl rfl ?_
        obtain rfl : k = n := by omega
        exact ⟨_, rfl, rfl, hp.nil⟩))

end Go.Proofs.YtbdmaiipohfnaaaDoor
