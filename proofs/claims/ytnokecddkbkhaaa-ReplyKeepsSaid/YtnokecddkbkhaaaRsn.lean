/-
  fault.Reason and doorkeeperref01.Reason, walked.
-/
import Derived.Test.YtnokecddkbkhaaaJoi
import Derived.Test.YtnokecddkbkhaaaTxt
namespace Go.Proofs.Ytnokecddkbkhaaa
open Go.Sx Go.RowKit
set_option linter.unusedVariables false
set_option linter.unusedSimpArgs false
set_option maxRecDepth 100000

def reasonF (s : Int) : List UInt8 := if s = 200 then [79, 75] else if s = 301 then [77, 111, 118, 101, 100, 32, 80, 101, 114, 109, 97, 110, 101, 110, 116, 108, 121] else if s = 400 then [66, 97, 100, 32, 82, 101, 113, 117, 101, 115, 116] else if s = 401 then [85, 110, 97, 117, 116, 104, 111, 114, 105, 122, 101, 100] else if s = 404 then [78, 111, 116, 32, 70, 111, 117, 110, 100] else if s = 405 then [77, 101, 116, 104, 111, 100, 32, 78, 111, 116, 32, 65, 108, 108, 111, 119, 101, 100] else if s = 413 then [67, 111, 110, 116, 101, 110, 116, 32, 84, 111, 111, 32, 76, 97, 114, 103, 101] else if s = 414 then [85, 82, 73, 32, 84, 111, 111, 32, 76, 111, 110, 103] else if s = 431 then [82, 101, 113, 117, 101, 115, 116, 32, 72, 101, 97, 100, 101, 114, 32, 70, 105, 101, 108, 100, 115, 32, 84, 111, 111, 32, 76, 97, 114, 103, 101] else if s = 501 then [78, 111, 116, 32, 73, 109, 112, 108, 101, 109, 101, 110, 116, 101, 100] else if s = 505 then [72, 84, 84, 80, 32, 86, 101, 114, 115, 105, 111, 110, 32, 78, 111, 116, 32, 83, 117, 112, 112, 111, 114, 116, 101, 100] else []
def k11 (i : Nat) : Int := ([200, 301, 400, 401, 404, 405, 413, 414, 431, 501, 505] : List Int).getD i 0
def r11 (i : Nat) : List UInt8 := ([[79, 75], [77, 111, 118, 101, 100, 32, 80, 101, 114, 109, 97, 110, 101, 110, 116, 108, 121], [66, 97, 100, 32, 82, 101, 113, 117, 101, 115, 116], [85, 110, 97, 117, 116, 104, 111, 114, 105, 122, 101, 100], [78, 111, 116, 32, 70, 111, 117, 110, 100], [77, 101, 116, 104, 111, 100, 32, 78, 111, 116, 32, 65, 108, 108, 111, 119, 101, 100], [67, 111, 110, 116, 101, 110, 116, 32, 84, 111, 111, 32, 76, 97, 114, 103, 101], [85, 82, 73, 32, 84, 111, 111, 32, 76, 111, 110, 103], [82, 101, 113, 117, 101, 115, 116, 32, 72, 101, 97, 100, 101, 114, 32, 70, 105, 101, 108, 100, 115, 32, 84, 111, 111, 32, 76, 97, 114, 103, 101], [78, 111, 116, 32, 73, 109, 112, 108, 101, 109, 101, 110, 116, 101, 100], [72, 84, 84, 80, 32, 86, 101, 114, 115, 105, 111, 110, 32, 78, 111, 116, 32, 83, 117, 112, 112, 111, 114, 116, 101, 100]] : List (List UInt8)).getD i []
theorem reason_at : ∀ i : Fin 11, reasonF (k11 i.val) = r11 i.val := by decide
theorem k11_at : ∀ i : Nat, i < 11 → ([.int .i64 200, .int .i64 301, .int .i64 400, .int .i64 401, .int .i64 404, .int .i64 405, .int .i64 413, .int .i64 414, .int .i64 431, .int .i64 501, .int .i64 505] : List Value)[i]? = some (.int .i64 (k11 i)) := by
  intro i h
  rcases (by omega : i = 0 ∨ i = 1 ∨ i = 2 ∨ i = 3 ∨ i = 4 ∨ i = 5 ∨ i = 6 ∨ i = 7 ∨ i = 8 ∨ i = 9 ∨ i = 10) with rfl | rfl | rfl | rfl | rfl | rfl | rfl | rfl | rfl | rfl | rfl <;> rfl
theorem r11_at : ∀ i : Nat, i < 11 → ([.string ⟨#[79, 75]⟩, .string ⟨#[77, 111, 118, 101, 100, 32, 80, 101, 114, 109, 97, 110, 101, 110, 116, 108, 121]⟩, .string ⟨#[66, 97, 100, 32, 82, 101, 113, 117, 101, 115, 116]⟩, .string ⟨#[85, 110, 97, 117, 116, 104, 111, 114, 105, 122, 101, 100]⟩, .string ⟨#[78, 111, 116, 32, 70, 111, 117, 110, 100]⟩, .string ⟨#[77, 101, 116, 104, 111, 100, 32, 78, 111, 116, 32, 65, 108, 108, 111, 119, 101, 100]⟩, .string ⟨#[67, 111, 110, 116, 101, 110, 116, 32, 84, 111, 111, 32, 76, 97, 114, 103, 101]⟩, .string ⟨#[85, 82, 73, 32, 84, 111, 111, 32, 76, 111, 110, 103]⟩, .string ⟨#[82, 101, 113, 117, 101, 115, 116, 32, 72, 101, 97, 100, 101, 114, 32, 70, 105, 101, 108, 100, 115, 32, 84, 111, 111, 32, 76, 97, 114, 103, 101]⟩, .string ⟨#[78, 111, 116, 32, 73, 109, 112, 108, 101, 109, 101, 110, 116, 101, 100]⟩, .string ⟨#[72, 84, 84, 80, 32, 86, 101, 114, 115, 105, 111, 110, 32, 78, 111, 116, 32, 83, 117, 112, 112, 111, 114, 116, 101, 100]⟩] : List Value)[i]? = some (strV (r11 i)) := by
  intro i h
  rcases (by omega : i = 0 ∨ i = 1 ∨ i = 2 ∨ i = 3 ∨ i = 4 ∨ i = 5 ∨ i = 6 ∨ i = 7 ∨ i = 8 ∨ i = 9 ∨ i = 10) with rfl | rfl | rfl | rfl | rfl | rfl | rfl | rfl | rfl | rfl | rfl <;> rfl
theorem reason_none {s : Int} (h : ∀ j, j < 11 → s ≠ k11 j) : reasonF s = [] := by
  have a0 : s ≠ 200 := h 0 (by decide)
  have a1 : s ≠ 301 := h 1 (by decide)
  have a2 : s ≠ 400 := h 2 (by decide)
  have a3 : s ≠ 401 := h 3 (by decide)
  have a4 : s ≠ 404 := h 4 (by decide)
  have a5 : s ≠ 405 := h 5 (by decide)
  have a6 : s ≠ 413 := h 6 (by decide)
  have a7 : s ≠ 414 := h 7 (by decide)
  have a8 : s ≠ 431 := h 8 (by decide)
  have a9 : s ≠ 501 := h 9 (by decide)
  have a10 : s ≠ 505 := h 10 (by decide)
  unfold reasonF
  simp [*]
def FinalP (s : Int) : Prop := s = 400 ∨ s = 413 ∨ s = 414 ∨ s = 431 ∨ s = 501 ∨ s = 505
instance (s : Int) : Decidable (FinalP s) := inferInstanceAs (Decidable (s = 400 ∨ _))
def k5 (i : Nat) : Int := ([200, 301, 401, 404, 405] : List Int).getD i 0
theorem k5_at : ∀ i : Nat, i < 5 → ([.int .i64 200, .int .i64 301, .int .i64 401, .int .i64 404, .int .i64 405] : List Value)[i]? = some (.int .i64 (k5 i)) := by
  intro i h
  rcases (by omega : i = 0 ∨ i = 1 ∨ i = 2 ∨ i = 3 ∨ i = 4) with rfl | rfl | rfl | rfl | rfl <;> rfl
theorem reason_none5 {s : Int} (hf : ¬ FinalP s) (h : ∀ j, j < 5 → s ≠ k5 j) : reasonF s = [] := by
  simp only [FinalP, not_or] at hf
  obtain ⟨h1, h2, h3, h4, h5, h6⟩ := hf
  have a0 : s ≠ 200 := h 0 (by decide)
  have a1 : s ≠ 301 := h 1 (by decide)
  have a2 : s ≠ 401 := h 2 (by decide)
  have a3 : s ≠ 404 := h 3 (by decide)
  have a4 : s ≠ 405 := h 4 (by decide)
  unfold reasonF
  simp [*]
theorem reason_length (s : Int) : (reasonF s).length ≤ 40 := by
  have key : ∀ (p : Prop) (hp : Decidable p) (a b : List UInt8), a.length ≤ 40 → b.length ≤ 40 → (if p then a else b).length ≤ 40 := by
    intro p hp a b h1 h2
    by_cases h : p
    · rw [if_pos h]; exact h1
    · rw [if_neg h]; exact h2
  unfold reasonF
  repeat (refine key _ _ _ _ (by decide) ?_)
  decide

theorem final_spec (s : Int) : PureF Try.prog 60 [.int .i64 s] (.bool (decide (FinalP s))) := by
  refine PureF.intro go60 Try.func60 rfl rfl fun w0 hp => ?_
  refine K_seq ?_
  refine K_region ?_
  refine W_assign rfl rfl ?_
  refine W_nil ?_
  refine N_then_k ?_
  refine K_seq ?_
  refine K_region ?_
  refine W_assign rfl rfl ?_
  refine W_nil ?_
  refine N_then_k ?_
  refine K_seq ?_
  refine K_seq ?_
  refine K_region ?_
  refine W_move rfl rfl ?_
  refine W_nil ?_
  refine N_then_k ?_
  refine K_block ?_
  refine K_seq ?_
  refine K_block ?_
  refine K_block ?_
  refine K_block ?_
  refine K_seq ?_
  refine K_seq ?_
  refine K_mid (σ := Unit) [5, 6, 7]
      (fun _ => [(5, .bool (decide (s = 400 ∨ s = 413)))])
      (fun _ w => Hp w0 [] [] w) ?_ ?_
  · refine K_seq ?_
    refine K_region ?_
    first
      | (refine W_eql_t rfl rfl ?_ rfl ?_; (focus (omega)))
      | (refine W_eql_f rfl rfl ?_ rfl ?_; (focus (omega)))
      | (refine W_eql rfl rfl rfl ?_)
    refine W_assign rfl rfl ?_
    refine W_nil ?_
    refine N_then_k ?_
    first
      | refine K_cond_d rfl (fun hc1 => ?_) (fun hc1 => ?_)
      | refine K_cond_n rfl (fun hc1 => ?_) (fun hc1 => ?_)
      | refine K_cond_nb rfl (fun hc1 => ?_) (fun hc1 => ?_)
      | refine K_cond_t rfl (fun hc1 => ?_) (fun hc1 => ?_)
    · try (exfalso; first | omega | (simp only [Bool.false_eq_true, reduceCtorEq] at hc1; done) | (refine absurd hc1 ?_; with_reducible assumption) | (refine absurd ?_ hc1; with_reducible assumption))
      all_goals (
       refine K_skip ?_
       refine N_mid (()) (sub_end ?_ ?_) ?_
       · repeat' (first | exact sub_lst_nil (sub_nil _) | refine sub_lst rfl ?_ | (refine sub_lst_eq rfl ?_ ?_; · first | rfl | (first | (refine congrArg Value.bool (decide_eq_true ?_).symm; omega) | (refine congrArg Value.bool (decide_eq_decide.2 ?_); omega)) | (simp; done) | (congr 1; omega)))
       · repeat' (first | exact sub_refl _ | exact sub_strip _ _ | refine sub_s_cons rfl ?_ | refine sub_s_lst rfl ?_ | refine sub_s_strip rfl ?_)
       · exact hp)
    · try (exfalso; first | omega | (simp only [Bool.false_eq_true, reduceCtorEq] at hc1; done) | (refine absurd hc1 ?_; with_reducible assumption) | (refine absurd ?_ hc1; with_reducible assumption))
      all_goals (
       refine K_region ?_
       first
         | (refine W_eql_t rfl rfl ?_ rfl ?_; (focus (omega)))
         | (refine W_eql_f rfl rfl ?_ rfl ?_; (focus (omega)))
         | (refine W_eql rfl rfl rfl ?_)
       refine W_assign rfl rfl ?_
       refine W_nil ?_
       refine N_mid (()) (sub_end ?_ ?_) ?_
       · repeat' (first | exact sub_lst_nil (sub_nil _) | refine sub_lst rfl ?_ | (refine sub_lst_eq rfl ?_ ?_; · first | rfl | (first | (refine congrArg Value.bool (decide_eq_true ?_).symm; omega) | (refine congrArg Value.bool (decide_eq_decide.2 ?_); omega)) | (simp; done) | (congr 1; omega)))
       · repeat' (first | exact sub_refl _ | exact sub_strip _ _ | refine sub_s_cons rfl ?_ | refine sub_s_lst rfl ?_ | refine sub_s_strip rfl ?_)
       · exact hp)
  · intro _ w hJ
    have hp := hJ
    first
      | refine K_cond_d rfl (fun hc2 => ?_) (fun hc2 => ?_)
      | refine K_cond_n rfl (fun hc2 => ?_) (fun hc2 => ?_)
      | refine K_cond_nb rfl (fun hc2 => ?_) (fun hc2 => ?_)
      | refine K_cond_t rfl (fun hc2 => ?_) (fun hc2 => ?_)
    · try (exfalso; first | omega | (simp only [Bool.false_eq_true, reduceCtorEq] at hc2; done) | (refine absurd hc2 ?_; with_reducible assumption) | (refine absurd ?_ hc2; with_reducible assumption))
      all_goals (
       refine K_exit ?_
       refine N_then_exit ?_
       refine N_then_exit ?_
       refine N_block_exit ?_
       refine N_block_normal ?_
       refine N_block_normal ?_
       refine N_then_k ?_
       refine K_seq ?_
       refine K_region ?_
       refine W_assign rfl rfl ?_
       refine W_nil ?_
       refine N_then_k ?_
       refine K_exit ?_
       refine N_block_exit ?_
       refine N_then_k ?_
       refine K_seq ?_
       refine K_region ?_
       refine W_move rfl rfl ?_
       refine W_assign rfl rfl ?_
       refine W_nil ?_
       refine N_then_k ?_
       refine K_ret ?_
       refine N_done1 (.inr rfl) rfl rfl ?_
       refine ⟨_, rfl, congrArg Value.bool ?_, hp.nil⟩
       first | exact (decide_eq_true (show FinalP s by unfold FinalP; omega)).symm | exact (decide_eq_false (show ¬ FinalP s by unfold FinalP; omega)).symm)
    · try (exfalso; first | omega | (simp only [Bool.false_eq_true, reduceCtorEq] at hc2; done) | (refine absurd hc2 ?_; with_reducible assumption) | (refine absurd ?_ hc2; with_reducible assumption))
      all_goals (
       refine K_skip ?_
       refine N_then_k ?_
       refine K_seq ?_
       refine K_mid (σ := Unit) [8, 9, 10]
           (fun _ => [(8, .bool (decide (s = 414 ∨ s = 431)))])
           (fun _ w => Hp w0 [] [] w) ?_ ?_
       · refine K_seq ?_
         refine K_region ?_
         first
           | (refine W_eql_t rfl rfl ?_ rfl ?_; (focus (omega)))
           | (refine W_eql_f rfl rfl ?_ rfl ?_; (focus (omega)))
           | (refine W_eql rfl rfl rfl ?_)
         refine W_assign rfl rfl ?_
         refine W_nil ?_
         refine N_then_k ?_
         first
           | refine K_cond_d rfl (fun hc3 => ?_) (fun hc3 => ?_)
           | refine K_cond_n rfl (fun hc3 => ?_) (fun hc3 => ?_)
           | refine K_cond_nb rfl (fun hc3 => ?_) (fun hc3 => ?_)
           | refine K_cond_t rfl (fun hc3 => ?_) (fun hc3 => ?_)
         · try (exfalso; first | omega | (simp only [Bool.false_eq_true, reduceCtorEq] at hc3; done) | (refine absurd hc3 ?_; with_reducible assumption) | (refine absurd ?_ hc3; with_reducible assumption))
           all_goals (
            refine K_skip ?_
            refine N_mid (()) (sub_end ?_ ?_) ?_
            · repeat' (first | exact sub_lst_nil (sub_nil _) | refine sub_lst rfl ?_ | (refine sub_lst_eq rfl ?_ ?_; · first | rfl | (first | (refine congrArg Value.bool (decide_eq_true ?_).symm; omega) | (refine congrArg Value.bool (decide_eq_decide.2 ?_); omega)) | (simp; done) | (congr 1; omega)))
            · repeat' (first | exact sub_refl _ | exact sub_strip _ _ | refine sub_s_cons rfl ?_ | refine sub_s_lst rfl ?_ | refine sub_s_strip rfl ?_)
            · exact hp)
         · try (exfalso; first | omega | (simp only [Bool.false_eq_true, reduceCtorEq] at hc3; done) | (refine absurd hc3 ?_; with_reducible assumption) | (refine absurd ?_ hc3; with_reducible assumption))
           all_goals (
            refine K_region ?_
            first
              | (refine W_eql_t rfl rfl ?_ rfl ?_; (focus (omega)))
              | (refine W_eql_f rfl rfl ?_ rfl ?_; (focus (omega)))
              | (refine W_eql rfl rfl rfl ?_)
            refine W_assign rfl rfl ?_
            refine W_nil ?_
            refine N_mid (()) (sub_end ?_ ?_) ?_
            · repeat' (first | exact sub_lst_nil (sub_nil _) | refine sub_lst rfl ?_ | (refine sub_lst_eq rfl ?_ ?_; · first | rfl | (first | (refine congrArg Value.bool (decide_eq_true ?_).symm; omega) | (refine congrArg Value.bool (decide_eq_decide.2 ?_); omega)) | (simp; done) | (congr 1; omega)))
            · repeat' (first | exact sub_refl _ | exact sub_strip _ _ | refine sub_s_cons rfl ?_ | refine sub_s_lst rfl ?_ | refine sub_s_strip rfl ?_)
            · exact hp)
       · intro _ w hJ
         have hp := hJ
         first
           | refine K_cond_d rfl (fun hc4 => ?_) (fun hc4 => ?_)
           | refine K_cond_n rfl (fun hc4 => ?_) (fun hc4 => ?_)
           | refine K_cond_nb rfl (fun hc4 => ?_) (fun hc4 => ?_)
           | refine K_cond_t rfl (fun hc4 => ?_) (fun hc4 => ?_)
         · try (exfalso; first | omega | (simp only [Bool.false_eq_true, reduceCtorEq] at hc4; done) | (refine absurd hc4 ?_; with_reducible assumption) | (refine absurd ?_ hc4; with_reducible assumption))
           all_goals (
            refine K_exit ?_
            refine N_then_exit ?_
            refine N_then_exit ?_
            refine N_block_other rfl ?_
            refine N_block_exit ?_
            refine N_block_normal ?_
            refine N_then_k ?_
            refine K_seq ?_
            refine K_region ?_
            refine W_assign rfl rfl ?_
            refine W_nil ?_
            refine N_then_k ?_
            refine K_exit ?_
            refine N_block_exit ?_
            refine N_then_k ?_
            refine K_seq ?_
            refine K_region ?_
            refine W_move rfl rfl ?_
            refine W_assign rfl rfl ?_
            refine W_nil ?_
            refine N_then_k ?_
            refine K_ret ?_
            refine N_done1 (.inr rfl) rfl rfl ?_
            refine ⟨_, rfl, congrArg Value.bool ?_, hp.nil⟩
            first | exact (decide_eq_true (show FinalP s by unfold FinalP; omega)).symm | exact (decide_eq_false (show ¬ FinalP s by unfold FinalP; omega)).symm)
         · try (exfalso; first | omega | (simp only [Bool.false_eq_true, reduceCtorEq] at hc4; done) | (refine absurd hc4 ?_; with_reducible assumption) | (refine absurd ?_ hc4; with_reducible assumption))
           all_goals (
            refine K_skip ?_
            refine N_then_k ?_
            refine K_mid (σ := Unit) [11, 12, 13]
                (fun _ => [(11, .bool (decide (s = 501 ∨ s = 505)))])
                (fun _ w => Hp w0 [] [] w) ?_ ?_
            · refine K_seq ?_
              refine K_region ?_
              first
                | (refine W_eql_t rfl rfl ?_ rfl ?_; (focus (omega)))
                | (refine W_eql_f rfl rfl ?_ rfl ?_; (focus (omega)))
                | (refine W_eql rfl rfl rfl ?_)
              refine W_assign rfl rfl ?_
              refine W_nil ?_
              refine N_then_k ?_
              first
                | refine K_cond_d rfl (fun hc5 => ?_) (fun hc5 => ?_)
                | refine K_cond_n rfl (fun hc5 => ?_) (fun hc5 => ?_)
                | refine K_cond_nb rfl (fun hc5 => ?_) (fun hc5 => ?_)
                | refine K_cond_t rfl (fun hc5 => ?_) (fun hc5 => ?_)
              · try (exfalso; first | omega | (simp only [Bool.false_eq_true, reduceCtorEq] at hc5; done) | (refine absurd hc5 ?_; with_reducible assumption) | (refine absurd ?_ hc5; with_reducible assumption))
                all_goals (
                 refine K_skip ?_
                 refine N_mid (()) (sub_end ?_ ?_) ?_
                 · repeat' (first | exact sub_lst_nil (sub_nil _) | refine sub_lst rfl ?_ | (refine sub_lst_eq rfl ?_ ?_; · first | rfl | (first | (refine congrArg Value.bool (decide_eq_true ?_).symm; omega) | (refine congrArg Value.bool (decide_eq_decide.2 ?_); omega)) | (simp; done) | (congr 1; omega)))
                 · repeat' (first | exact sub_refl _ | exact sub_strip _ _ | refine sub_s_cons rfl ?_ | refine sub_s_lst rfl ?_ | refine sub_s_strip rfl ?_)
                 · exact hp)
              · try (exfalso; first | omega | (simp only [Bool.false_eq_true, reduceCtorEq] at hc5; done) | (refine absurd hc5 ?_; with_reducible assumption) | (refine absurd ?_ hc5; with_reducible assumption))
                all_goals (
                 refine K_region ?_
                 first
                   | (refine W_eql_t rfl rfl ?_ rfl ?_; (focus (omega)))
                   | (refine W_eql_f rfl rfl ?_ rfl ?_; (focus (omega)))
                   | (refine W_eql rfl rfl rfl ?_)
                 refine W_assign rfl rfl ?_
                 refine W_nil ?_
                 refine N_mid (()) (sub_end ?_ ?_) ?_
                 · repeat' (first | exact sub_lst_nil (sub_nil _) | refine sub_lst rfl ?_ | (refine sub_lst_eq rfl ?_ ?_; · first | rfl | (first | (refine congrArg Value.bool (decide_eq_true ?_).symm; omega) | (refine congrArg Value.bool (decide_eq_decide.2 ?_); omega)) | (simp; done) | (congr 1; omega)))
                 · repeat' (first | exact sub_refl _ | exact sub_strip _ _ | refine sub_s_cons rfl ?_ | refine sub_s_lst rfl ?_ | refine sub_s_strip rfl ?_)
                 · exact hp)
            · intro _ w hJ
              have hp := hJ
              first
                | refine K_cond_d rfl (fun hc6 => ?_) (fun hc6 => ?_)
                | refine K_cond_n rfl (fun hc6 => ?_) (fun hc6 => ?_)
                | refine K_cond_nb rfl (fun hc6 => ?_) (fun hc6 => ?_)
                | refine K_cond_t rfl (fun hc6 => ?_) (fun hc6 => ?_)
              · try (exfalso; first | omega | (simp only [Bool.false_eq_true, reduceCtorEq] at hc6; done) | (refine absurd hc6 ?_; with_reducible assumption) | (refine absurd ?_ hc6; with_reducible assumption))
                all_goals (
                 refine K_exit ?_
                 refine N_then_exit ?_
                 refine N_block_other rfl ?_
                 refine N_block_other rfl ?_
                 refine N_block_exit ?_
                 refine N_then_k ?_
                 refine K_seq ?_
                 refine K_region ?_
                 refine W_assign rfl rfl ?_
                 refine W_nil ?_
                 refine N_then_k ?_
                 refine K_exit ?_
                 refine N_block_exit ?_
                 refine N_then_k ?_
                 refine K_seq ?_
                 refine K_region ?_
                 refine W_move rfl rfl ?_
                 refine W_assign rfl rfl ?_
                 refine W_nil ?_
                 refine N_then_k ?_
                 refine K_ret ?_
                 refine N_done1 (.inr rfl) rfl rfl ?_
                 refine ⟨_, rfl, congrArg Value.bool ?_, hp.nil⟩
                 first | exact (decide_eq_true (show FinalP s by unfold FinalP; omega)).symm | exact (decide_eq_false (show ¬ FinalP s by unfold FinalP; omega)).symm)
              · try (exfalso; first | omega | (simp only [Bool.false_eq_true, reduceCtorEq] at hc6; done) | (refine absurd hc6 ?_; with_reducible assumption) | (refine absurd ?_ hc6; with_reducible assumption))
                all_goals (
                 refine K_skip ?_
                 refine N_then_k ?_
                 refine K_exit ?_
                 refine N_block_other rfl ?_
                 refine N_block_other rfl ?_
                 refine N_block_other rfl ?_
                 refine N_then_exit ?_
                 refine N_block_exit ?_
                 refine N_then_k ?_
                 refine K_seq ?_
                 refine K_region ?_
                 refine W_move rfl rfl ?_
                 refine W_assign rfl rfl ?_
                 refine W_nil ?_
                 refine N_then_k ?_
                 refine K_ret ?_
                 refine N_done1 (.inr rfl) rfl rfl ?_
                 refine ⟨_, rfl, congrArg Value.bool ?_, hp.nil⟩
                 first | exact (decide_eq_true (show FinalP s by unfold FinalP; omega)).symm | exact (decide_eq_false (show ¬ FinalP s by unfold FinalP; omega)).symm)))

theorem finalReason_spec (s : Int) (h : FinalP s) : PureF Try.prog 61 [.int .i64 s] (.string ⟨(reasonF s).toArray⟩) := by
  rcases h with rfl | rfl | rfl | rfl | rfl | rfl
  all_goals (
   refine PureF.intro go61 Try.func61 rfl rfl fun w0 hp => ?_
   refine K_seq ?_
   refine K_region ?_
   refine W_assign rfl rfl ?_
   refine W_nil ?_
   refine N_then_k ?_
   refine K_seq ?_
   refine K_seq ?_
   refine K_region ?_
   refine W_move rfl rfl ?_
   refine W_nil ?_
   refine N_then_k ?_
   refine K_block ?_
   refine K_seq ?_
   refine K_region ?_
   first
     | (refine W_eql_t rfl rfl ?_ rfl ?_; (focus (omega)))
     | (refine W_eql_f rfl rfl ?_ rfl ?_; (focus (omega)))
     | (refine W_eql rfl rfl rfl ?_)
   refine W_assign rfl rfl ?_
   refine W_nil ?_
   refine N_then_k ?_
   first
     | refine K_cond_d rfl (fun hc1 => ?_) (fun hc1 => ?_)
     | refine K_cond_n rfl (fun hc1 => ?_) (fun hc1 => ?_)
     | refine K_cond_nb rfl (fun hc1 => ?_) (fun hc1 => ?_)
     | refine K_cond_t rfl (fun hc1 => ?_) (fun hc1 => ?_)
   · try (exfalso; first | omega | (simp only [Bool.false_eq_true, reduceCtorEq] at hc1; done) | (refine absurd hc1 ?_; with_reducible assumption) | (refine absurd ?_ hc1; with_reducible assumption))
     all_goals (
      refine K_seq ?_
      refine K_region ?_
      refine W_assign rfl rfl ?_
      refine W_nil ?_
      refine N_then_k ?_
      refine K_ret ?_
      refine N_block_ret ?_
      refine N_then_ret ?_
      refine N_done1 (.inr rfl) rfl rfl ?_
      exact ⟨_, rfl, rfl, hp.nil⟩)
   · try (exfalso; first | omega | (simp only [Bool.false_eq_true, reduceCtorEq] at hc1; done) | (refine absurd hc1 ?_; with_reducible assumption) | (refine absurd ?_ hc1; with_reducible assumption))
     all_goals (
      refine K_seq ?_
      refine K_region ?_
      first
        | (refine W_eql_t rfl rfl ?_ rfl ?_; (focus (omega)))
        | (refine W_eql_f rfl rfl ?_ rfl ?_; (focus (omega)))
        | (refine W_eql rfl rfl rfl ?_)
      refine W_assign rfl rfl ?_
      refine W_nil ?_
      refine N_then_k ?_
      first
        | refine K_cond_d rfl (fun hc2 => ?_) (fun hc2 => ?_)
        | refine K_cond_n rfl (fun hc2 => ?_) (fun hc2 => ?_)
        | refine K_cond_nb rfl (fun hc2 => ?_) (fun hc2 => ?_)
        | refine K_cond_t rfl (fun hc2 => ?_) (fun hc2 => ?_)
      · try (exfalso; first | omega | (simp only [Bool.false_eq_true, reduceCtorEq] at hc2; done) | (refine absurd hc2 ?_; with_reducible assumption) | (refine absurd ?_ hc2; with_reducible assumption))
        all_goals (
         refine K_seq ?_
         refine K_region ?_
         refine W_assign rfl rfl ?_
         refine W_nil ?_
         refine N_then_k ?_
         refine K_ret ?_
         refine N_block_ret ?_
         refine N_then_ret ?_
         refine N_done1 (.inr rfl) rfl rfl ?_
         exact ⟨_, rfl, rfl, hp.nil⟩)
      · try (exfalso; first | omega | (simp only [Bool.false_eq_true, reduceCtorEq] at hc2; done) | (refine absurd hc2 ?_; with_reducible assumption) | (refine absurd ?_ hc2; with_reducible assumption))
        all_goals (
         refine K_seq ?_
         refine K_region ?_
         first
           | (refine W_eql_t rfl rfl ?_ rfl ?_; (focus (omega)))
           | (refine W_eql_f rfl rfl ?_ rfl ?_; (focus (omega)))
           | (refine W_eql rfl rfl rfl ?_)
         refine W_assign rfl rfl ?_
         refine W_nil ?_
         refine N_then_k ?_
         first
           | refine K_cond_d rfl (fun hc3 => ?_) (fun hc3 => ?_)
           | refine K_cond_n rfl (fun hc3 => ?_) (fun hc3 => ?_)
           | refine K_cond_nb rfl (fun hc3 => ?_) (fun hc3 => ?_)
           | refine K_cond_t rfl (fun hc3 => ?_) (fun hc3 => ?_)
         · try (exfalso; first | omega | (simp only [Bool.false_eq_true, reduceCtorEq] at hc3; done) | (refine absurd hc3 ?_; with_reducible assumption) | (refine absurd ?_ hc3; with_reducible assumption))
           all_goals (
            refine K_seq ?_
            refine K_region ?_
            refine W_assign rfl rfl ?_
            refine W_nil ?_
            refine N_then_k ?_
            refine K_ret ?_
            refine N_block_ret ?_
            refine N_then_ret ?_
            refine N_done1 (.inr rfl) rfl rfl ?_
            exact ⟨_, rfl, rfl, hp.nil⟩)
         · try (exfalso; first | omega | (simp only [Bool.false_eq_true, reduceCtorEq] at hc3; done) | (refine absurd hc3 ?_; with_reducible assumption) | (refine absurd ?_ hc3; with_reducible assumption))
           all_goals (
            refine K_seq ?_
            refine K_region ?_
            first
              | (refine W_eql_t rfl rfl ?_ rfl ?_; (focus (omega)))
              | (refine W_eql_f rfl rfl ?_ rfl ?_; (focus (omega)))
              | (refine W_eql rfl rfl rfl ?_)
            refine W_assign rfl rfl ?_
            refine W_nil ?_
            refine N_then_k ?_
            first
              | refine K_cond_d rfl (fun hc4 => ?_) (fun hc4 => ?_)
              | refine K_cond_n rfl (fun hc4 => ?_) (fun hc4 => ?_)
              | refine K_cond_nb rfl (fun hc4 => ?_) (fun hc4 => ?_)
              | refine K_cond_t rfl (fun hc4 => ?_) (fun hc4 => ?_)
            · try (exfalso; first | omega | (simp only [Bool.false_eq_true, reduceCtorEq] at hc4; done) | (refine absurd hc4 ?_; with_reducible assumption) | (refine absurd ?_ hc4; with_reducible assumption))
              all_goals (
               refine K_seq ?_
               refine K_region ?_
               refine W_assign rfl rfl ?_
               refine W_nil ?_
               refine N_then_k ?_
               refine K_ret ?_
               refine N_block_ret ?_
               refine N_then_ret ?_
               refine N_done1 (.inr rfl) rfl rfl ?_
               exact ⟨_, rfl, rfl, hp.nil⟩)
            · try (exfalso; first | omega | (simp only [Bool.false_eq_true, reduceCtorEq] at hc4; done) | (refine absurd hc4 ?_; with_reducible assumption) | (refine absurd ?_ hc4; with_reducible assumption))
              all_goals (
               refine K_seq ?_
               refine K_region ?_
               first
                 | (refine W_eql_t rfl rfl ?_ rfl ?_; (focus (omega)))
                 | (refine W_eql_f rfl rfl ?_ rfl ?_; (focus (omega)))
                 | (refine W_eql rfl rfl rfl ?_)
               refine W_assign rfl rfl ?_
               refine W_nil ?_
               refine N_then_k ?_
               first
                 | refine K_cond_d rfl (fun hc5 => ?_) (fun hc5 => ?_)
                 | refine K_cond_n rfl (fun hc5 => ?_) (fun hc5 => ?_)
                 | refine K_cond_nb rfl (fun hc5 => ?_) (fun hc5 => ?_)
                 | refine K_cond_t rfl (fun hc5 => ?_) (fun hc5 => ?_)
               · try (exfalso; first | omega | (simp only [Bool.false_eq_true, reduceCtorEq] at hc5; done) | (refine absurd hc5 ?_; with_reducible assumption) | (refine absurd ?_ hc5; with_reducible assumption))
                 all_goals (
                  refine K_seq ?_
                  refine K_region ?_
                  refine W_assign rfl rfl ?_
                  refine W_nil ?_
                  refine N_then_k ?_
                  refine K_ret ?_
                  refine N_block_ret ?_
                  refine N_then_ret ?_
                  refine N_done1 (.inr rfl) rfl rfl ?_
                  exact ⟨_, rfl, rfl, hp.nil⟩)
               · try (exfalso; first | omega | (simp only [Bool.false_eq_true, reduceCtorEq] at hc5; done) | (refine absurd hc5 ?_; with_reducible assumption) | (refine absurd ?_ hc5; with_reducible assumption))
                 all_goals (
                  refine K_skip ?_
                  refine N_block_normal ?_
                  refine N_then_k ?_
                  refine K_seq ?_
                  refine K_region ?_
                  refine W_assign rfl rfl ?_
                  refine W_nil ?_
                  refine N_then_k ?_
                  refine K_ret ?_
                  refine N_done1 (.inr rfl) rfl rfl ?_
                  exact ⟨_, rfl, rfl, hp.nil⟩))))))

theorem plainReason_spec (i : Nat) (h : i < 5) : PureF Try.prog 63 [.int .i64 (k5 i)] (.string ⟨(reasonF (k5 i)).toArray⟩) := by
  rcases (by omega : i = 0 ∨ i = 1 ∨ i = 2 ∨ i = 3 ∨ i = 4) with rfl | rfl | rfl | rfl | rfl
  all_goals simp only [k5, List.getD_cons_zero, List.getD_cons_succ]
  all_goals (
   refine PureF.intro go63 Try.func63 rfl rfl fun w0 hp => ?_
   refine K_seq ?_
   refine K_region ?_
   refine W_assign rfl rfl ?_
   refine W_nil ?_
   refine N_then_k ?_
   refine K_seq ?_
   refine K_seq ?_
   refine K_region ?_
   refine W_move rfl rfl ?_
   refine W_nil ?_
   refine N_then_k ?_
   refine K_block ?_
   refine K_seq ?_
   refine K_region ?_
   first
     | (refine W_eql_t rfl rfl ?_ rfl ?_; (focus (omega)))
     | (refine W_eql_f rfl rfl ?_ rfl ?_; (focus (omega)))
     | (refine W_eql rfl rfl rfl ?_)
   refine W_assign rfl rfl ?_
   refine W_nil ?_
   refine N_then_k ?_
   first
     | refine K_cond_d rfl (fun hc1 => ?_) (fun hc1 => ?_)
     | refine K_cond_n rfl (fun hc1 => ?_) (fun hc1 => ?_)
     | refine K_cond_nb rfl (fun hc1 => ?_) (fun hc1 => ?_)
     | refine K_cond_t rfl (fun hc1 => ?_) (fun hc1 => ?_)
   · try (exfalso; first | omega | (simp only [Bool.false_eq_true, reduceCtorEq] at hc1; done) | (refine absurd hc1 ?_; with_reducible assumption) | (refine absurd ?_ hc1; with_reducible assumption))
     all_goals (
      refine K_seq ?_
      refine K_region ?_
      refine W_assign rfl rfl ?_
      refine W_nil ?_
      refine N_then_k ?_
      refine K_ret ?_
      refine N_block_ret ?_
      refine N_then_ret ?_
      refine N_done1 (.inr rfl) rfl rfl ?_
      exact ⟨_, rfl, rfl, hp.nil⟩)
   · try (exfalso; first | omega | (simp only [Bool.false_eq_true, reduceCtorEq] at hc1; done) | (refine absurd hc1 ?_; with_reducible assumption) | (refine absurd ?_ hc1; with_reducible assumption))
     all_goals (
      refine K_seq ?_
      refine K_region ?_
      first
        | (refine W_eql_t rfl rfl ?_ rfl ?_; (focus (omega)))
        | (refine W_eql_f rfl rfl ?_ rfl ?_; (focus (omega)))
        | (refine W_eql rfl rfl rfl ?_)
      refine W_assign rfl rfl ?_
      refine W_nil ?_
      refine N_then_k ?_
      first
        | refine K_cond_d rfl (fun hc2 => ?_) (fun hc2 => ?_)
        | refine K_cond_n rfl (fun hc2 => ?_) (fun hc2 => ?_)
        | refine K_cond_nb rfl (fun hc2 => ?_) (fun hc2 => ?_)
        | refine K_cond_t rfl (fun hc2 => ?_) (fun hc2 => ?_)
      · try (exfalso; first | omega | (simp only [Bool.false_eq_true, reduceCtorEq] at hc2; done) | (refine absurd hc2 ?_; with_reducible assumption) | (refine absurd ?_ hc2; with_reducible assumption))
        all_goals (
         refine K_seq ?_
         refine K_region ?_
         refine W_assign rfl rfl ?_
         refine W_nil ?_
         refine N_then_k ?_
         refine K_ret ?_
         refine N_block_ret ?_
         refine N_then_ret ?_
         refine N_done1 (.inr rfl) rfl rfl ?_
         exact ⟨_, rfl, rfl, hp.nil⟩)
      · try (exfalso; first | omega | (simp only [Bool.false_eq_true, reduceCtorEq] at hc2; done) | (refine absurd hc2 ?_; with_reducible assumption) | (refine absurd ?_ hc2; with_reducible assumption))
        all_goals (
         refine K_seq ?_
         refine K_region ?_
         first
           | (refine W_eql_t rfl rfl ?_ rfl ?_; (focus (omega)))
           | (refine W_eql_f rfl rfl ?_ rfl ?_; (focus (omega)))
           | (refine W_eql rfl rfl rfl ?_)
         refine W_assign rfl rfl ?_
         refine W_nil ?_
         refine N_then_k ?_
         first
           | refine K_cond_d rfl (fun hc3 => ?_) (fun hc3 => ?_)
           | refine K_cond_n rfl (fun hc3 => ?_) (fun hc3 => ?_)
           | refine K_cond_nb rfl (fun hc3 => ?_) (fun hc3 => ?_)
           | refine K_cond_t rfl (fun hc3 => ?_) (fun hc3 => ?_)
         · try (exfalso; first | omega | (simp only [Bool.false_eq_true, reduceCtorEq] at hc3; done) | (refine absurd hc3 ?_; with_reducible assumption) | (refine absurd ?_ hc3; with_reducible assumption))
           all_goals (
            refine K_seq ?_
            refine K_region ?_
            refine W_assign rfl rfl ?_
            refine W_nil ?_
            refine N_then_k ?_
            refine K_ret ?_
            refine N_block_ret ?_
            refine N_then_ret ?_
            refine N_done1 (.inr rfl) rfl rfl ?_
            exact ⟨_, rfl, rfl, hp.nil⟩)
         · try (exfalso; first | omega | (simp only [Bool.false_eq_true, reduceCtorEq] at hc3; done) | (refine absurd hc3 ?_; with_reducible assumption) | (refine absurd ?_ hc3; with_reducible assumption))
           all_goals (
            refine K_seq ?_
            refine K_region ?_
            first
              | (refine W_eql_t rfl rfl ?_ rfl ?_; (focus (omega)))
              | (refine W_eql_f rfl rfl ?_ rfl ?_; (focus (omega)))
              | (refine W_eql rfl rfl rfl ?_)
            refine W_assign rfl rfl ?_
            refine W_nil ?_
            refine N_then_k ?_
            first
              | refine K_cond_d rfl (fun hc4 => ?_) (fun hc4 => ?_)
              | refine K_cond_n rfl (fun hc4 => ?_) (fun hc4 => ?_)
              | refine K_cond_nb rfl (fun hc4 => ?_) (fun hc4 => ?_)
              | refine K_cond_t rfl (fun hc4 => ?_) (fun hc4 => ?_)
            · try (exfalso; first | omega | (simp only [Bool.false_eq_true, reduceCtorEq] at hc4; done) | (refine absurd hc4 ?_; with_reducible assumption) | (refine absurd ?_ hc4; with_reducible assumption))
              all_goals (
               refine K_seq ?_
               refine K_region ?_
               refine W_assign rfl rfl ?_
               refine W_nil ?_
               refine N_then_k ?_
               refine K_ret ?_
               refine N_block_ret ?_
               refine N_then_ret ?_
               refine N_done1 (.inr rfl) rfl rfl ?_
               exact ⟨_, rfl, rfl, hp.nil⟩)
            · try (exfalso; first | omega | (simp only [Bool.false_eq_true, reduceCtorEq] at hc4; done) | (refine absurd hc4 ?_; with_reducible assumption) | (refine absurd ?_ hc4; with_reducible assumption))
              all_goals (
               refine K_skip ?_
               refine N_block_normal ?_
               refine N_then_k ?_
               refine K_seq ?_
               refine K_region ?_
               refine W_assign rfl rfl ?_
               refine W_nil ?_
               refine N_then_k ?_
               refine K_ret ?_
               refine N_done1 (.inr rfl) rfl rfl ?_
               exact ⟨_, rfl, rfl, hp.nil⟩)))))

theorem noIs (v : Value) (xT : TypeId) (w : World) : (Instr.typeAssert (.iface 29 v) xT 97 true).run Try.prog w = .ok (.tuple #[.nilIface, .bool false]) w := run_typeAssert_lacksB Try.underlying97 (by kernel_rfl) (by kernel_rfl) v xT w

theorem noUn (v : Value) (xT : TypeId) (w : World) : (Instr.typeAssert (.iface 29 v) xT 100 true).run Try.prog w = .ok (.tuple #[.nilIface, .bool false]) w := run_typeAssert_lacksB Try.underlying100 (by kernel_rfl) (by kernel_rfl) v xT w

theorem noUm (v : Value) (xT : TypeId) (w : World) : (Instr.typeAssert (.iface 29 v) xT 102 true).run Try.prog w = .ok (.tuple #[.nilIface, .bool false]) w := run_typeAssert_lacksB Try.underlying102 (by kernel_rfl) (by kernel_rfl) v xT w

theorem xTypeOf : ExtFn Try.prog 69 Go.Extern.ReflectliteType.typeOf := ⟨Try.f69, Try.func69, by kernel_rfl, by kernel_rfl, by kernel_rfl, by kernel_rfl⟩
theorem stInfo : ∃ i, Try.prog.info? 29 = some i ∧ i.comparable = true := by
  have h : ((Try.prog.info? 29).map (·.comparable)) = some true := by kernel_rfl
  cases hi : Try.prog.info? 29 with
  | none => rw [hi] at h; cases h
  | some i => rw [hi] at h; exact ⟨i, rfl, by simpa using h⟩
theorem eqSt (a b : Int) (x y : Operand) (w : World) : (do eqGuard .eql 85 x y (.iface 29 (.int .i64 a)) (.iface 29 (.int .i64 b)); binOp .eql 85 (.iface 29 (.int .i64 a)) (.iface 29 (.int .i64 b)) : Sem Value).run Try.prog w = .ok (.bool (a == b)) w := by
  obtain ⟨i, hi, hc⟩ := stInfo
  exact run_eql_ii w a b x y Try.underlying85 Try.underlying29 hi hc
theorem eqSt_yes (a : Int) (x y : Operand) (w : World) : (do eqGuard .eql 85 x y (.iface 29 (.int .i64 a)) (.iface 29 (.int .i64 a)); binOp .eql 85 (.iface 29 (.int .i64 a)) (.iface 29 (.int .i64 a)) : Sem Value).run Try.prog w = .ok (.bool true) w := by rw [eqSt]; simp
theorem eqSt_no {a b : Int} (h : a ≠ b) (x y : Operand) (w : World) : (do eqGuard .eql 85 x y (.iface 29 (.int .i64 a)) (.iface 29 (.int .i64 b)); binOp .eql 85 (.iface 29 (.int .i64 a)) (.iface 29 (.int .i64 b)) : Sem Value).run Try.prog w = .ok (.bool false) w := by rw [eqSt]; simp [h]

theorem isS_yes0 (s : Int) : PureF Try.prog 70 [.iface 29 (.int .i64 s), .iface 29 (.int .i64 s), .bool true] (.bool true) := by
  refine PureF.intro go70 Try.func70 rfl rfl fun w0 hp => ?_
  refine K_seq ?_
  refine K_region ?_
  refine W_assign rfl rfl ?_
  refine W_nil ?_
  refine N_then_k ?_
  refine K_block ?_
  refine K_loop (σ := Nat) [0, 6, 7, 8, 9, 10, 12, 13, 14, 15, 16, 17, 18, 19, 20, 21, 22, 23, 24, 25, 26, 27, 28, 29, 30, 31, 32, 33, 34, 35, 36, 37, 38, 39, 40, 41, 42, 43, 44, 45, 46, 47, 48, 49, 50, 51, 52, 53]
      (fun k => [(0, .iface 29 (.int .i64 s))])
      (fun k w => Hp w0 [] [] w)
      (fun k => k) (0) ?_ ?_ ?_
  · repeat' (first | exact sub_lst_nil (sub_nil _) | refine sub_lst rfl ?_ | (refine sub_lst_eq rfl ?_ ?_; · first | rfl | (simp; done) | (congr 1; omega)))
  · exact hp
  · intro k w hJ
    have hp := hJ
    refine K_block ?_
    refine K_seq ?_
    refine K_seq ?_
    refine K_region ?_
    refine W_move rfl rfl ?_
    refine W_move rfl rfl ?_
    first
      | refine W_guard_lit_t rfl ?_
      | refine W_guard_lit_f rfl ?_
      | refine W_guard_lit_u rfl ?_
      | refine W_guard_split_d rfl rfl rfl (fun hg1 => ?_) (fun hg1 => ?_)
      | refine W_guard_split_n rfl rfl rfl (fun hg1 => ?_) (fun hg1 => ?_)
      | refine W_guard_split_nb rfl rfl rfl (fun hg1 => ?_) (fun hg1 => ?_)
      | refine W_guard_split rfl rfl rfl (fun hg1 => ?_) (fun hg1 => ?_)
    all_goals try (exfalso; first | omega | (simp only [Bool.false_eq_true, reduceCtorEq] at hg1; done) | (refine absurd hg1 ?_; with_reducible assumption) | (refine absurd ?_ hg1; with_reducible assumption))
    all_goals (
     first
       | (iterate 3 refine W_guard_no rfl rfl rfl ?_)
       | (iterate 3 refine W_guard_un rfl rfl ?_)
       | (refine W_guard_yes rfl ?_
          refine W_move rfl rfl ?_
          refine W_guard_yes rfl ?_
          refine W_move rfl rfl ?_
          refine W_guard_yes rfl ?_
          refine W_val rfl (inb_of rfl) (R_bin (v := .bool true) rfl rfl (eqSt_yes _ _ _ w)) ?_)
     first
       | (refine W_pick_t rfl rfl rfl ?_)
       | (refine W_pick_f rfl rfl rfl ?_)
       | (refine W_pick_b rfl rfl rfl rfl ?_)
     refine W_nil ?_
     refine N_then_k ?_
     first
       | refine K_cond_d rfl (fun hc2 => ?_) (fun hc2 => ?_)
       | refine K_cond_n rfl (fun hc2 => ?_) (fun hc2 => ?_)
       | refine K_cond_nb rfl (fun hc2 => ?_) (fun hc2 => ?_)
       | refine K_cond_t rfl (fun hc2 => ?_) (fun hc2 => ?_)
     · try (exfalso; first | omega | (simp only [Bool.false_eq_true, reduceCtorEq] at hc2; done) | (refine absurd hc2 ?_; with_reducible assumption) | (refine absurd ?_ hc2; with_reducible assumption))
       all_goals (
        refine K_seq ?_
        refine K_region ?_
        refine W_assign rfl rfl ?_
        refine W_nil ?_
        refine N_then_k ?_
        refine K_ret ?_
        refine N_then_ret ?_
        refine N_block_ret ?_
        refine N_then_ret ?_
        refine N_block_ret ?_
        refine N_done1 (.inr rfl) rfl rfl ?_
        exact ⟨_, rfl, rfl, hp.nil⟩)
     · try (exfalso; first | omega | (simp only [Bool.false_eq_true, reduceCtorEq] at hc2; done) | (refine absurd hc2 ?_; with_reducible assumption) | (refine absurd ?_ hc2; with_reducible assumption))
       all_goals (
        refine K_skip ?_
        refine N_then_k ?_
        refine K_seq ?_
        refine K_seq ?_
        fail "not to be reached"))

theorem isS_yes (s : Int) : PureF Try.prog 62 [.iface 29 (.int .i64 s), .iface 29 (.int .i64 s)] (.bool true) := by
  refine PureF.intro go62 Try.func62 rfl rfl fun w0 hp => ?_
  refine K_seq ?_
  refine K_region ?_
  refine W_assign rfl rfl ?_
  refine W_nil ?_
  refine N_then_k ?_
  refine K_seq ?_
  refine K_seq ?_
  refine K_region ?_
  refine W_move rfl rfl ?_
  first
    | (refine W_val rfl (inb_of rfl) (R_bin (a := .nilIface) (v := .bool true) rfl rfl (by kernel_rfl)) ?_)
    | (refine W_val rfl (inb_of rfl) (R_bin (v := .bool false) rfl rfl (by kernel_rfl)) ?_)
  refine W_move rfl rfl ?_
  first
    | refine W_guard_lit_t rfl ?_
    | refine W_guard_lit_f rfl ?_
    | refine W_guard_lit_u rfl ?_
    | refine W_guard_split_d rfl rfl rfl (fun hg1 => ?_) (fun hg1 => ?_)
    | refine W_guard_split_n rfl rfl rfl (fun hg1 => ?_) (fun hg1 => ?_)
    | refine W_guard_split_nb rfl rfl rfl (fun hg1 => ?_) (fun hg1 => ?_)
    | refine W_guard_split rfl rfl rfl (fun hg1 => ?_) (fun hg1 => ?_)
  all_goals try (exfalso; first | omega | (simp only [Bool.false_eq_true, reduceCtorEq] at hg1; done) | (refine absurd hg1 ?_; with_reducible assumption) | (refine absurd ?_ hg1; with_reducible assumption))
  all_goals (
   first
     | (iterate 2 refine W_guard_no rfl rfl rfl ?_)
     | (iterate 2 refine W_guard_un rfl rfl ?_)
     | (refine W_guard_yes rfl ?_
        refine W_move rfl rfl ?_
        refine W_guard_yes rfl ?_
        first
          | (refine W_val rfl (inb_of rfl) (R_bin (a := .nilIface) (v := .bool true) rfl rfl (by kernel_rfl)) ?_)
          | (refine W_val rfl (inb_of rfl) (R_bin (v := .bool false) rfl rfl (by kernel_rfl)) ?_))
   first
     | (refine W_pick_t rfl rfl rfl ?_)
     | (refine W_pick_f rfl rfl rfl ?_)
     | (refine W_pick_b rfl rfl rfl rfl ?_)
   refine W_nil ?_
   refine N_then_k ?_
   first
     | refine K_cond_d rfl (fun hc2 => ?_) (fun hc2 => ?_)
     | refine K_cond_n rfl (fun hc2 => ?_) (fun hc2 => ?_)
     | refine K_cond_nb rfl (fun hc2 => ?_) (fun hc2 => ?_)
     | refine K_cond_t rfl (fun hc2 => ?_) (fun hc2 => ?_)
   · try (exfalso; first | omega | (simp only [Bool.false_eq_true, reduceCtorEq] at hc2; done) | (refine absurd hc2 ?_; with_reducible assumption) | (refine absurd ?_ hc2; with_reducible assumption))
     all_goals (
      refine K_seq ?_
      fail "not to be reached")
   · try (exfalso; first | omega | (simp only [Bool.false_eq_true, reduceCtorEq] at hc2; done) | (refine absurd hc2 ?_; with_reducible assumption) | (refine absurd ?_ hc2; with_reducible assumption))
     all_goals (
      refine K_skip ?_
      refine N_then_k ?_
      refine K_seq ?_
      refine K_region ?_
      refine W_move rfl rfl ?_
      refine W_val rfl (inb_of rfl) (R_ext (v := .iface 95 (.agg #[.pointer (some ⟨1, 29, none⟩)])) xTypeOf (xs := [_]) rfl ?_) ?_
      · kernel_rfl
      refine W_val rfl (inb_of rfl) (R_invoke (v := .bool true) (xs := []) rfl rfl ?_) ?_
      · kernel_rfl
      refine W_assign rfl rfl ?_
      refine W_nil ?_
      refine N_then_k ?_
      refine K_seq ?_
      refine K_region ?_
      refine W_move rfl rfl ?_
      refine W_move rfl rfl ?_
      refine W_move rfl rfl ?_
      refine W_pcall hp rfl (isS_yes0 s) rfl ?_
      clear hp; intro w hp
      refine W_assign rfl rfl ?_
      refine W_nil ?_
      refine N_then_k ?_
      refine K_ret ?_
      refine N_done1 (.inr rfl) rfl rfl ?_
      exact ⟨_, rfl, rfl, hp.nil⟩))

theorem isS_no0 (s : Int) (k : Int) (h : s ≠ k) : PureF Try.prog 70 [.iface 29 (.int .i64 s), .iface 29 (.int .i64 k), .bool true] (.bool false) := by
  refine PureF.intro go70 Try.func70 rfl rfl fun w0 hp => ?_
  refine K_seq ?_
  refine K_region ?_
  refine W_assign rfl rfl ?_
  refine W_nil ?_
  refine N_then_k ?_
  refine K_block ?_
  refine K_loop (σ := Nat) [0, 6, 7, 8, 9, 10, 12, 13, 14, 15, 16, 17, 18, 19, 20, 21, 22, 23, 24, 25, 26, 27, 28, 29, 30, 31, 32, 33, 34, 35, 36, 37, 38, 39, 40, 41, 42, 43, 44, 45, 46, 47, 48, 49, 50, 51, 52, 53]
      (fun k => [(0, .iface 29 (.int .i64 s))])
      (fun k w => Hp w0 [] [] w)
      (fun k => k) (0) ?_ ?_ ?_
  · repeat' (first | exact sub_lst_nil (sub_nil _) | refine sub_lst rfl ?_ | (refine sub_lst_eq rfl ?_ ?_; · first | rfl | (simp; done) | (congr 1; omega)))
  · exact hp
  · intro k w hJ
    have hp := hJ
    refine K_block ?_
    refine K_seq ?_
    refine K_seq ?_
    refine K_region ?_
    refine W_move rfl rfl ?_
    refine W_move rfl rfl ?_
    first
      | refine W_guard_lit_t rfl ?_
      | refine W_guard_lit_f rfl ?_
      | refine W_guard_lit_u rfl ?_
      | refine W_guard_split_d rfl rfl rfl (fun hg1 => ?_) (fun hg1 => ?_)
      | refine W_guard_split_n rfl rfl rfl (fun hg1 => ?_) (fun hg1 => ?_)
      | refine W_guard_split_nb rfl rfl rfl (fun hg1 => ?_) (fun hg1 => ?_)
      | refine W_guard_split rfl rfl rfl (fun hg1 => ?_) (fun hg1 => ?_)
    all_goals try (exfalso; first | omega | (simp only [Bool.false_eq_true, reduceCtorEq] at hg1; done) | (refine absurd hg1 ?_; with_reducible assumption) | (refine absurd ?_ hg1; with_reducible assumption))
    all_goals (
     first
       | (iterate 3 refine W_guard_no rfl rfl rfl ?_)
       | (iterate 3 refine W_guard_un rfl rfl ?_)
       | (refine W_guard_yes rfl ?_
          refine W_move rfl rfl ?_
          refine W_guard_yes rfl ?_
          refine W_move rfl rfl ?_
          refine W_guard_yes rfl ?_
          refine W_val rfl (inb_of rfl) (R_bin (v := .bool false) rfl rfl (eqSt_no h _ _ w)) ?_)
     first
       | (refine W_pick_t rfl rfl rfl ?_)
       | (refine W_pick_f rfl rfl rfl ?_)
       | (refine W_pick_b rfl rfl rfl rfl ?_)
     refine W_nil ?_
     refine N_then_k ?_
     first
       | refine K_cond_d rfl (fun hc2 => ?_) (fun hc2 => ?_)
       | refine K_cond_n rfl (fun hc2 => ?_) (fun hc2 => ?_)
       | refine K_cond_nb rfl (fun hc2 => ?_) (fun hc2 => ?_)
       | refine K_cond_t rfl (fun hc2 => ?_) (fun hc2 => ?_)
     · try (exfalso; first | omega | (simp only [Bool.false_eq_true, reduceCtorEq] at hc2; done) | (refine absurd hc2 ?_; with_reducible assumption) | (refine absurd ?_ hc2; with_reducible assumption))
       all_goals (
        refine K_seq ?_
        fail "not to be reached")
     · try (exfalso; first | omega | (simp only [Bool.false_eq_true, reduceCtorEq] at hc2; done) | (refine absurd hc2 ?_; with_reducible assumption) | (refine absurd ?_ hc2; with_reducible assumption))
       all_goals (
        refine K_skip ?_
        refine N_then_k ?_
        refine K_seq ?_
        refine K_seq ?_
        refine K_region ?_
        refine W_move rfl rfl ?_
        refine W_val rfl (inb_of rfl) (R_assert (u := .iface 29 (.int .i64 s)) (v := .tuple #[.nilIface, .bool false]) rfl (noIs _ _ _)) ?_
        refine W_move rfl rfl ?_
        refine W_extract rfl rfl rfl ?_
        refine W_extract rfl rfl rfl ?_
        refine W_assign rfl rfl ?_
        refine W_assign rfl rfl ?_
        refine W_nil ?_
        refine N_then_k ?_
        refine K_seq ?_
        refine K_region ?_
        refine W_move rfl rfl ?_
        refine W_move rfl rfl ?_
        first
          | refine W_guard_lit_t rfl ?_
          | refine W_guard_lit_f rfl ?_
          | refine W_guard_lit_u rfl ?_
          | refine W_guard_split_d rfl rfl rfl (fun hg3 => ?_) (fun hg3 => ?_)
          | refine W_guard_split_n rfl rfl rfl (fun hg3 => ?_) (fun hg3 => ?_)
          | refine W_guard_split_nb rfl rfl rfl (fun hg3 => ?_) (fun hg3 => ?_)
          | refine W_guard_split rfl rfl rfl (fun hg3 => ?_) (fun hg3 => ?_)
        all_goals try (exfalso; first | omega | (simp only [Bool.false_eq_true, reduceCtorEq] at hg3; done) | (refine absurd hg3 ?_; with_reducible assumption) | (refine absurd ?_ hg3; with_reducible assumption))
        all_goals (
         first
           | (iterate 3 refine W_guard_no rfl rfl rfl ?_)
           | (iterate 3 refine W_guard_un rfl rfl ?_)
           | (refine W_guard_yes rfl ?_
              refine W_move rfl rfl ?_
              refine W_guard_yes rfl ?_
              refine W_move rfl rfl ?_
              refine W_guard_yes rfl ?_
              fail "not to be reached")
         first
           | (refine W_pick_t rfl rfl rfl ?_)
           | (refine W_pick_f rfl rfl rfl ?_)
           | (refine W_pick_b rfl rfl rfl rfl ?_)
         refine W_nil ?_
         refine N_then_k ?_
         first
           | refine K_cond_d rfl (fun hc4 => ?_) (fun hc4 => ?_)
           | refine K_cond_n rfl (fun hc4 => ?_) (fun hc4 => ?_)
           | refine K_cond_nb rfl (fun hc4 => ?_) (fun hc4 => ?_)
           | refine K_cond_t rfl (fun hc4 => ?_) (fun hc4 => ?_)
         · try (exfalso; first | omega | (simp only [Bool.false_eq_true, reduceCtorEq] at hc4; done) | (refine absurd hc4 ?_; with_reducible assumption) | (refine absurd ?_ hc4; with_reducible assumption))
           all_goals (
            refine K_seq ?_
            fail "not to be reached")
         · try (exfalso; first | omega | (simp only [Bool.false_eq_true, reduceCtorEq] at hc4; done) | (refine absurd hc4 ?_; with_reducible assumption) | (refine absurd ?_ hc4; with_reducible assumption))
           all_goals (
            refine K_skip ?_
            refine N_then_k ?_
            refine K_seq ?_
            refine K_region ?_
            refine W_move rfl rfl ?_
            refine W_nil ?_
            refine N_then_k ?_
            refine K_block ?_
            refine K_seq ?_
            refine K_region ?_
            refine W_val rfl (inb_of rfl) (R_assert (u := .iface 29 (.int .i64 s)) (v := .tuple #[.nilIface, .bool false]) rfl (noUn _ _ _)) ?_
            refine W_extract rfl rfl rfl ?_
            refine W_extract rfl rfl rfl ?_
            refine W_nil ?_
            refine N_then_k ?_
            first
              | refine K_cond_d rfl (fun hc5 => ?_) (fun hc5 => ?_)
              | refine K_cond_n rfl (fun hc5 => ?_) (fun hc5 => ?_)
              | refine K_cond_nb rfl (fun hc5 => ?_) (fun hc5 => ?_)
              | refine K_cond_t rfl (fun hc5 => ?_) (fun hc5 => ?_)
            · try (exfalso; first | omega | (simp only [Bool.false_eq_true, reduceCtorEq] at hc5; done) | (refine absurd hc5 ?_; with_reducible assumption) | (refine absurd ?_ hc5; with_reducible assumption))
              all_goals (
               refine K_seq ?_
               fail "not to be reached")
            · try (exfalso; first | omega | (simp only [Bool.false_eq_true, reduceCtorEq] at hc5; done) | (refine absurd hc5 ?_; with_reducible assumption) | (refine absurd ?_ hc5; with_reducible assumption))
              all_goals (
               refine K_seq ?_
               refine K_region ?_
               refine W_val rfl (inb_of rfl) (R_assert (u := .iface 29 (.int .i64 s)) (v := .tuple #[.nilIface, .bool false]) rfl (noUm _ _ _)) ?_
               refine W_extract rfl rfl rfl ?_
               refine W_extract rfl rfl rfl ?_
               refine W_nil ?_
               refine N_then_k ?_
               first
                 | refine K_cond_d rfl (fun hc6 => ?_) (fun hc6 => ?_)
                 | refine K_cond_n rfl (fun hc6 => ?_) (fun hc6 => ?_)
                 | refine K_cond_nb rfl (fun hc6 => ?_) (fun hc6 => ?_)
                 | refine K_cond_t rfl (fun hc6 => ?_) (fun hc6 => ?_)
               · try (exfalso; first | omega | (simp only [Bool.false_eq_true, reduceCtorEq] at hc6; done) | (refine absurd hc6 ?_; with_reducible assumption) | (refine absurd ?_ hc6; with_reducible assumption))
                 all_goals (
                  refine K_seq ?_
                  fail "not to be reached")
               · try (exfalso; first | omega | (simp only [Bool.false_eq_true, reduceCtorEq] at hc6; done) | (refine absurd hc6 ?_; with_reducible assumption) | (refine absurd ?_ hc6; with_reducible assumption))
                 all_goals (
                  refine K_seq ?_
                  refine K_region ?_
                  refine W_assign rfl rfl ?_
                  refine W_nil ?_
                  refine N_then_k ?_
                  refine K_seq ?_
                  refine K_region ?_
                  refine W_assign rfl rfl ?_
                  refine W_nil ?_
                  refine N_then_k ?_
                  refine K_ret ?_
                  refine N_block_ret ?_
                  refine N_block_ret ?_
                  refine N_then_ret ?_
                  refine N_block_ret ?_
                  refine N_done1 (.inr rfl) rfl rfl ?_
                  exact ⟨_, rfl, rfl, hp.nil⟩))))))

theorem isS_no (s : Int) (k : Int) (h : s ≠ k) : PureF Try.prog 62 [.iface 29 (.int .i64 s), .iface 29 (.int .i64 k)] (.bool false) := by
  refine PureF.intro go62 Try.func62 rfl rfl fun w0 hp => ?_
  refine K_seq ?_
  refine K_region ?_
  refine W_assign rfl rfl ?_
  refine W_nil ?_
  refine N_then_k ?_
  refine K_seq ?_
  refine K_seq ?_
  refine K_region ?_
  refine W_move rfl rfl ?_
  first
    | (refine W_val rfl (inb_of rfl) (R_bin (a := .nilIface) (v := .bool true) rfl rfl (by kernel_rfl)) ?_)
    | (refine W_val rfl (inb_of rfl) (R_bin (v := .bool false) rfl rfl (by kernel_rfl)) ?_)
  refine W_move rfl rfl ?_
  first
    | refine W_guard_lit_t rfl ?_
    | refine W_guard_lit_f rfl ?_
    | refine W_guard_lit_u rfl ?_
    | refine W_guard_split_d rfl rfl rfl (fun hg1 => ?_) (fun hg1 => ?_)
    | refine W_guard_split_n rfl rfl rfl (fun hg1 => ?_) (fun hg1 => ?_)
    | refine W_guard_split_nb rfl rfl rfl (fun hg1 => ?_) (fun hg1 => ?_)
    | refine W_guard_split rfl rfl rfl (fun hg1 => ?_) (fun hg1 => ?_)
  all_goals try (exfalso; first | omega | (simp only [Bool.false_eq_true, reduceCtorEq] at hg1; done) | (refine absurd hg1 ?_; with_reducible assumption) | (refine absurd ?_ hg1; with_reducible assumption))
  all_goals (
   first
     | (iterate 2 refine W_guard_no rfl rfl rfl ?_)
     | (iterate 2 refine W_guard_un rfl rfl ?_)
     | (refine W_guard_yes rfl ?_
        refine W_move rfl rfl ?_
        refine W_guard_yes rfl ?_
        first
          | (refine W_val rfl (inb_of rfl) (R_bin (a := .nilIface) (v := .bool true) rfl rfl (by kernel_rfl)) ?_)
          | (refine W_val rfl (inb_of rfl) (R_bin (v := .bool false) rfl rfl (by kernel_rfl)) ?_))
   first
     | (refine W_pick_t rfl rfl rfl ?_)
     | (refine W_pick_f rfl rfl rfl ?_)
     | (refine W_pick_b rfl rfl rfl rfl ?_)
   refine W_nil ?_
   refine N_then_k ?_
   first
     | refine K_cond_d rfl (fun hc2 => ?_) (fun hc2 => ?_)
     | refine K_cond_n rfl (fun hc2 => ?_) (fun hc2 => ?_)
     | refine K_cond_nb rfl (fun hc2 => ?_) (fun hc2 => ?_)
     | refine K_cond_t rfl (fun hc2 => ?_) (fun hc2 => ?_)
   · try (exfalso; first | omega | (simp only [Bool.false_eq_true, reduceCtorEq] at hc2; done) | (refine absurd hc2 ?_; with_reducible assumption) | (refine absurd ?_ hc2; with_reducible assumption))
     all_goals (
      refine K_seq ?_
      fail "not to be reached")
   · try (exfalso; first | omega | (simp only [Bool.false_eq_true, reduceCtorEq] at hc2; done) | (refine absurd hc2 ?_; with_reducible assumption) | (refine absurd ?_ hc2; with_reducible assumption))
     all_goals (
      refine K_skip ?_
      refine N_then_k ?_
      refine K_seq ?_
      refine K_region ?_
      refine W_move rfl rfl ?_
      refine W_val rfl (inb_of rfl) (R_ext (v := .iface 95 (.agg #[.pointer (some ⟨1, 29, none⟩)])) xTypeOf (xs := [_]) rfl ?_) ?_
      · kernel_rfl
      refine W_val rfl (inb_of rfl) (R_invoke (v := .bool true) (xs := []) rfl rfl ?_) ?_
      · kernel_rfl
      refine W_assign rfl rfl ?_
      refine W_nil ?_
      refine N_then_k ?_
      refine K_seq ?_
      refine K_region ?_
      refine W_move rfl rfl ?_
      refine W_move rfl rfl ?_
      refine W_move rfl rfl ?_
      refine W_pcall hp rfl (isS_no0 s k h) rfl ?_
      clear hp; intro w hp
      refine W_assign rfl rfl ?_
      refine W_nil ?_
      refine N_then_k ?_
      refine K_ret ?_
      refine N_done1 (.inr rfl) rfl rfl ?_
      exact ⟨_, rfl, rfl, hp.nil⟩))

set_option maxHeartbeats 800000 in
theorem reason_spec (s : Int) : PureF Try.prog 50 [.int .i64 s] (.string ⟨(reasonF s).toArray⟩) := by
  by_cases hf : FinalP s
  all_goals (
   refine PureF.intro go50 Try.func50 rfl rfl fun w0 hp => ?_
   refine K_seq ?_
   refine K_region ?_
   refine W_assign rfl rfl ?_
   refine W_nil ?_
   refine N_then_k ?_
   refine K_seq ?_
   refine K_seq ?_
   refine K_region ?_
   refine W_move rfl rfl ?_
   first
     | (refine W_pcall hp rfl ((final_spec s).eq (congrArg Value.bool (decide_eq_true hf))) rfl ?_)
     | (refine W_pcall hp rfl ((final_spec s).eq (congrArg Value.bool (decide_eq_false hf))) rfl ?_)
   clear hp; intro w hp
   refine W_nil ?_
   refine N_then_k ?_
   first
     | refine K_cond_d rfl (fun hc1 => ?_) (fun hc1 => ?_)
     | refine K_cond_n rfl (fun hc1 => ?_) (fun hc1 => ?_)
     | refine K_cond_nb rfl (fun hc1 => ?_) (fun hc1 => ?_)
     | refine K_cond_t rfl (fun hc1 => ?_) (fun hc1 => ?_)
   · try (exfalso; first | omega | (simp only [Bool.false_eq_true, reduceCtorEq] at hc1; done) | (refine absurd hc1 ?_; with_reducible assumption) | (refine absurd ?_ hc1; with_reducible assumption))
     all_goals (
      refine K_seq ?_
      refine K_region ?_
      refine W_move rfl rfl ?_
      refine W_pcall hp rfl (finalReason_spec s hf) rfl ?_
      clear hp; intro w hp
      refine W_assign rfl rfl ?_
      refine W_nil ?_
      refine N_then_k ?_
      refine K_ret ?_
      refine N_then_ret ?_
      refine N_done1 (.inr rfl) rfl rfl ?_
      refine ⟨_, rfl, ?_, hp.nil⟩
      first
        | rfl
        | (rw [reason_none5 hf (fun j hj => hn j (by omega))]))
   · try (exfalso; first | omega | (simp only [Bool.false_eq_true, reduceCtorEq] at hc1; done) | (refine absurd hc1 ?_; with_reducible assumption) | (refine absurd ?_ hc1; with_reducible assumption))
     all_goals (
      refine K_skip ?_
      refine N_then_k ?_
      refine K_seq ?_
      refine K_seq ?_
      refine K_region ?_
      refine W_bslice5 hp Try.underlying76 sz29 zv29 rfl rfl rfl rfl rfl  rfl rfl rfl rfl rfl  (fun v0 v1 v2 v3 v4 => [v0, v1, v2, v3, v4]) rfl rfl rfl ?_
      clear hp; intro b9 w hp
      refine W_len_sl Try.underlying76 rfl rfl ?_
      refine W_move rfl rfl ?_
      refine W_nil ?_
      refine N_then_k ?_
      refine K_block ?_
      refine K_loop (σ := Nat) [2, 4, 11, 12, 13, 14, 15, 16, 17, 18, 19, 20, 21, 22]
          (fun i => [(11, .int .i64 i)])
          (fun i w => Hp w0 [] [(b9, .cells [.int .i64 200, .int .i64 301, .int .i64 401, .int .i64 404, .int .i64 405].toArray 29)] w ∧ i ≤ 5 ∧ ∀ j, j < i → s ≠ k5 j)
          (fun i => 5 - i) (0) ?_ ?_ ?_
      · repeat' (first | exact sub_lst_nil (sub_nil _) | refine sub_lst rfl ?_ | (refine sub_lst_eq rfl ?_ ?_; · first | rfl | (simp; done) | (congr 1; omega)))
      · exact ⟨hp, Nat.zero_le _, fun j hj => absurd hj (Nat.not_lt_zero _)⟩
      · intro i w hJ
        clear hp
        obtain ⟨hp, hle, hn⟩ := hJ
        rcases Nat.lt_or_ge i 5 with hlt | hge
        all_goals (
         refine K_seq ?_
         refine K_region ?_
         first
           | (refine W_lss_t rfl rfl ?_ rfl ?_; (focus (omega)))
           | (refine W_lss_f rfl rfl ?_ rfl ?_; (focus (omega)))
           | (refine W_lss rfl rfl rfl ?_)
         refine W_nil ?_
         refine N_then_k ?_
         refine K_seq ?_
         first
           | refine K_cond_d rfl (fun hc2 => ?_) (fun hc2 => ?_)
           | refine K_cond_n rfl (fun hc2 => ?_) (fun hc2 => ?_)
           | refine K_cond_nb rfl (fun hc2 => ?_) (fun hc2 => ?_)
           | refine K_cond_t rfl (fun hc2 => ?_) (fun hc2 => ?_)
         · try (exfalso; first | omega | (simp only [Bool.false_eq_true, reduceCtorEq] at hc2; done) | (refine absurd hc2 ?_; with_reducible assumption) | (refine absurd ?_ hc2; with_reducible assumption))
           all_goals (
            refine K_skip ?_
            refine N_then_k ?_
            refine K_seq ?_
            refine K_block ?_
            refine K_seq ?_
            refine K_region ?_
            refine W_indexAddr_sl Try.underlying76 sz29 rfl rfl ?_ ?_ rfl ?_
            (focus (omega))
            (focus (first | omega | (simp; done) | (simp; omega)))
            refine W_load_s Try.underlying29 rfl rfl (by exact hp.cellF List.mem_cons_self (by simpa using k5_at i hlt)) rfl ?_
            refine W_assign rfl rfl ?_
            refine W_nil ?_
            refine N_then_k ?_
            refine K_seq ?_
            refine K_region ?_
            rcases Decidable.em (s = k5 i) with rfl | hsk
            all_goals (
             refine W_move rfl rfl ?_
             refine W_mkiface Try.underlying29 rfl rfl rfl ?_
             refine W_move rfl rfl ?_
             refine W_mkiface Try.underlying29 rfl rfl rfl ?_
             first
               | (refine W_pcall hp rfl (isS_no s (k5 i) hsk) rfl ?_)
               | (refine W_pcall hp rfl (isS_yes (k5 i)) rfl ?_)
             clear hp; intro w hp
             refine W_nil ?_
             refine N_then_k ?_
             first
               | refine K_cond_d rfl (fun hc3 => ?_) (fun hc3 => ?_)
               | refine K_cond_n rfl (fun hc3 => ?_) (fun hc3 => ?_)
               | refine K_cond_nb rfl (fun hc3 => ?_) (fun hc3 => ?_)
               | refine K_cond_t rfl (fun hc3 => ?_) (fun hc3 => ?_)
             · try (exfalso; first | omega | (simp only [Bool.false_eq_true, reduceCtorEq] at hc3; done) | (refine absurd hc3 ?_; with_reducible assumption) | (refine absurd ?_ hc3; with_reducible assumption))
               all_goals (
                refine K_seq ?_
                refine K_region ?_
                refine W_move rfl rfl ?_
                refine W_pcall hp rfl (plainReason_spec i hlt) rfl ?_
                clear hp; intro w hp
                refine W_assign rfl rfl ?_
                refine W_nil ?_
                refine N_then_k ?_
                refine K_ret ?_
                refine N_block_ret ?_
                refine N_then_ret ?_
                refine N_then_ret ?_
                refine N_block_ret ?_
                refine N_then_ret ?_
                refine N_done1 (.inr rfl) rfl rfl ?_
                refine ⟨_, rfl, ?_, hp.nil⟩
                first
                  | rfl
                  | (rw [reason_none5 hf (fun j hj => hn j (by omega))]))
             · try (exfalso; first | omega | (simp only [Bool.false_eq_true, reduceCtorEq] at hc3; done) | (refine absurd hc3 ?_; with_reducible assumption) | (refine absurd ?_ hc3; with_reducible assumption))
               all_goals (
                refine K_skip ?_
                refine N_block_normal ?_
                refine N_then_k ?_
                refine K_region ?_
                first
                  | (refine W_add rfl rfl (wr_i64 ?_) rfl ?_; (focus (omega)))
                  | (refine W_add rfl rfl rfl rfl ?_)
                refine W_move rfl rfl ?_
                refine W_nil ?_
                refine N_again (i + 1) (sub_end ?_ ?_) ?_ ?_
                · repeat' (first | exact sub_lst_nil (sub_nil _) | refine sub_lst rfl ?_ | (refine sub_lst_eq rfl ?_ ?_; · first | rfl | (simp; done) | (congr 1; omega)))
                · repeat' (first | exact sub_refl _ | exact sub_strip _ _ | refine sub_s_cons rfl ?_ | refine sub_s_lst rfl ?_ | refine sub_s_strip rfl ?_)
                · refine ⟨hp, hlt, fun j hj => ?_⟩
                  rcases Nat.lt_or_ge j i with h1 | h1
                  · exact hn j h1
                  · obtain rfl : j = i := by omega
                    exact hsk
                · omega)))
         · try (exfalso; first | omega | (simp only [Bool.false_eq_true, reduceCtorEq] at hc2; done) | (refine absurd hc2 ?_; with_reducible assumption) | (refine absurd ?_ hc2; with_reducible assumption))
           all_goals (
            refine K_exit ?_
            refine N_then_exit ?_
            refine N_then_exit ?_
            refine N_block_exit ?_
            refine N_then_k ?_
            refine K_seq ?_
            refine K_region ?_
            refine W_assign rfl rfl ?_
            refine W_nil ?_
            refine N_then_k ?_
            refine K_ret ?_
            refine N_done1 (.inr rfl) rfl rfl ?_
            refine ⟨_, rfl, ?_, hp.nil⟩
            first
              | rfl
              | (rw [reason_none5 hf (fun j hj => hn j (by omega))])))))

theorem rreason_spec (s : Int) : PureF Try.prog 32 [.int .i64 s] (.string ⟨(reasonF s).toArray⟩) := by
  refine PureF.intro go32 Try.func32 rfl rfl fun w0 hp => ?_
  refine K_seq ?_
  refine K_region ?_
  refine W_assign rfl rfl ?_
  refine W_nil ?_
  refine N_then_k ?_
  refine K_seq ?_
  refine K_region ?_
  refine W_bslice_l (xs := [_, _, _, _, _, _, _, _, _, _, _]) (vs := [_, _, _, _, _, _, _, _, _, _, _]) hp Try.underlying67 sz3 zv3 rfl rfl rfl (by decide) (by simp [Value.cells]) rfl rfl ?_
  clear hp; intro b6 w hp
  refine W_assign rfl rfl ?_
  refine W_nil ?_
  refine N_then_k ?_
  refine K_seq ?_
  refine K_region ?_
  refine W_bslice_l (xs := [_, _, _, _, _, _, _, _, _, _, _]) (vs := [_, _, _, _, _, _, _, _, _, _, _]) hp Try.underlying22 sz9 zv9 rfl rfl rfl (by decide) (by simp [Value.cells]) rfl rfl ?_
  clear hp; intro b7 w hp
  refine W_assign rfl rfl ?_
  refine W_nil ?_
  refine N_then_k ?_
  refine K_seq ?_
  refine K_seq ?_
  refine K_region ?_
  refine W_assign rfl rfl ?_
  refine W_nil ?_
  refine N_then_k ?_
  refine K_block ?_
  refine K_loop (σ := Nat) [2, 5, 8, 9, 10, 11, 12, 13, 14, 15, 16, 17, 18, 19, 20, 21, 22, 23]
      (fun i => [(5, .int .i64 i)])
      (fun i w => Hp w0 [] [(b7, .cells [.string ⟨#[79, 75]⟩, .string ⟨#[77, 111, 118, 101, 100, 32, 80, 101, 114, 109, 97, 110, 101, 110, 116, 108, 121]⟩, .string ⟨#[66, 97, 100, 32, 82, 101, 113, 117, 101, 115, 116]⟩, .string ⟨#[85, 110, 97, 117, 116, 104, 111, 114, 105, 122, 101, 100]⟩, .string ⟨#[78, 111, 116, 32, 70, 111, 117, 110, 100]⟩, .string ⟨#[77, 101, 116, 104, 111, 100, 32, 78, 111, 116, 32, 65, 108, 108, 111, 119, 101, 100]⟩, .string ⟨#[67, 111, 110, 116, 101, 110, 116, 32, 84, 111, 111, 32, 76, 97, 114, 103, 101]⟩, .string ⟨#[85, 82, 73, 32, 84, 111, 111, 32, 76, 111, 110, 103]⟩, .string ⟨#[82, 101, 113, 117, 101, 115, 116, 32, 72, 101, 97, 100, 101, 114, 32, 70, 105, 101, 108, 100, 115, 32, 84, 111, 111, 32, 76, 97, 114, 103, 101]⟩, .string ⟨#[78, 111, 116, 32, 73, 109, 112, 108, 101, 109, 101, 110, 116, 101, 100]⟩, .string ⟨#[72, 84, 84, 80, 32, 86, 101, 114, 115, 105, 111, 110, 32, 78, 111, 116, 32, 83, 117, 112, 112, 111, 114, 116, 101, 100]⟩].toArray 9), (b6, .cells [.int .i64 200, .int .i64 301, .int .i64 400, .int .i64 401, .int .i64 404, .int .i64 405, .int .i64 413, .int .i64 414, .int .i64 431, .int .i64 501, .int .i64 505].toArray 3)] w ∧ i ≤ 11 ∧ ∀ j, j < i → s ≠ k11 j)
      (fun i => 11 - i) (0) ?_ ?_ ?_
  · repeat' (first | exact sub_lst_nil (sub_nil _) | refine sub_lst rfl ?_ | (refine sub_lst_eq rfl ?_ ?_; · first | rfl | (simp; done) | (congr 1; omega)))
  · exact ⟨hp, Nat.zero_le _, fun j hj => absurd hj (Nat.not_lt_zero _)⟩
  · intro i w hJ
    clear hp
    obtain ⟨hp, hle, hn⟩ := hJ
    rcases Nat.lt_or_ge i 11 with hlt | hge
    all_goals (
     refine K_seq ?_
     refine K_seq ?_
     refine K_region ?_
     refine W_move rfl rfl ?_
     refine W_move rfl rfl ?_
     refine W_len_sl Try.underlying67 rfl rfl ?_
     first
       | (refine W_lss_t rfl rfl ?_ rfl ?_; (focus (omega)))
       | (refine W_lss_f rfl rfl ?_ rfl ?_; (focus (omega)))
       | (refine W_lss rfl rfl rfl ?_)
     refine W_nil ?_
     refine N_then_k ?_
     first
       | refine K_cond_d rfl (fun hc1 => ?_) (fun hc1 => ?_)
       | refine K_cond_n rfl (fun hc1 => ?_) (fun hc1 => ?_)
       | refine K_cond_nb rfl (fun hc1 => ?_) (fun hc1 => ?_)
       | refine K_cond_t rfl (fun hc1 => ?_) (fun hc1 => ?_)
     · try (exfalso; first | omega | (simp only [Bool.false_eq_true, reduceCtorEq] at hc1; done) | (refine absurd hc1 ?_; with_reducible assumption) | (refine absurd ?_ hc1; with_reducible assumption))
       all_goals (
        refine K_skip ?_
        refine N_then_k ?_
        refine K_seq ?_
        refine K_block ?_
        refine K_seq ?_
        refine K_region ?_
        refine W_move rfl rfl ?_
        refine W_move rfl rfl ?_
        refine W_indexAddr_sl Try.underlying67 sz3 rfl rfl ?_ ?_ rfl ?_
        (focus (omega))
        (focus (first | omega | (simp; done) | (simp; omega)))
        refine W_load_s Try.underlying3 rfl rfl (by exact hp.cellF (.tail _ List.mem_cons_self) (by simpa using k11_at i hlt)) rfl ?_
        refine W_move rfl rfl ?_
        first
          | (refine W_eql_t rfl rfl ?_ rfl ?_; (focus (omega)))
          | (refine W_eql_f rfl rfl ?_ rfl ?_; (focus (omega)))
          | (refine W_eql rfl rfl rfl ?_)
        refine W_nil ?_
        refine N_then_k ?_
        first
          | refine K_cond_d rfl (fun hc2 => ?_) (fun hc2 => ?_)
          | refine K_cond_n rfl (fun hc2 => ?_) (fun hc2 => ?_)
          | refine K_cond_nb rfl (fun hc2 => ?_) (fun hc2 => ?_)
          | refine K_cond_t rfl (fun hc2 => ?_) (fun hc2 => ?_)
        · try (exfalso; first | omega | (simp only [Bool.false_eq_true, reduceCtorEq] at hc2; done) | (refine absurd hc2 ?_; with_reducible assumption) | (refine absurd ?_ hc2; with_reducible assumption))
          all_goals (
           refine K_seq ?_
           refine K_region ?_
           refine W_move rfl rfl ?_
           refine W_move rfl rfl ?_
           refine W_indexAddr_sl Try.underlying22 sz9 rfl rfl ?_ ?_ rfl ?_
           (focus (omega))
           (focus (first | omega | (simp; done) | (simp; omega)))
           refine W_load_s Try.underlying9 rfl rfl (by exact hp.cellF List.mem_cons_self (by simpa using r11_at i hlt)) rfl ?_
           refine W_assign rfl rfl ?_
           refine W_nil ?_
           refine N_then_k ?_
           refine K_ret ?_
           refine N_block_ret ?_
           refine N_then_ret ?_
           refine N_then_ret ?_
           refine N_block_ret ?_
           refine N_then_ret ?_
           refine N_done1 (.inr rfl) rfl rfl ?_
           refine ⟨_, rfl, ?_, hp.nil⟩
           first
             | (rw [reason_none (fun j hj => hn j (by omega))])
             | (have hra := reason_at ⟨i, hlt⟩; simp only at hra; rw [show s = k11 i by omega, hra]; rfl))
        · try (exfalso; first | omega | (simp only [Bool.false_eq_true, reduceCtorEq] at hc2; done) | (refine absurd hc2 ?_; with_reducible assumption) | (refine absurd ?_ hc2; with_reducible assumption))
          all_goals (
           refine K_skip ?_
           refine N_block_normal ?_
           refine N_then_k ?_
           refine K_region ?_
           refine W_move rfl rfl ?_
           first
             | (refine W_add rfl rfl (wr_i64 ?_) rfl ?_; (focus (omega)))
             | (refine W_add rfl rfl rfl rfl ?_)
           refine W_assign rfl rfl ?_
           refine W_nil ?_
           refine N_again (i + 1) (sub_end ?_ ?_) ?_ ?_
           · repeat' (first | exact sub_lst_nil (sub_nil _) | refine sub_lst rfl ?_ | (refine sub_lst_eq rfl ?_ ?_; · first | rfl | (simp; done) | (congr 1; omega)))
           · repeat' (first | exact sub_refl _ | exact sub_strip _ _ | refine sub_s_cons rfl ?_ | refine sub_s_lst rfl ?_ | refine sub_s_strip rfl ?_)
           · refine ⟨hp, hlt, fun j hj => ?_⟩
             rcases Nat.lt_or_ge j i with h1 | h1
             · exact hn j h1
             · obtain rfl : j = i := by omega
               intro e; omega
           · omega))
     · try (exfalso; first | omega | (simp only [Bool.false_eq_true, reduceCtorEq] at hc1; done) | (refine absurd hc1 ?_; with_reducible assumption) | (refine absurd ?_ hc1; with_reducible assumption))
       all_goals (
        refine K_exit ?_
        refine N_then_exit ?_
        refine N_then_exit ?_
        refine N_block_exit ?_
        refine N_then_k ?_
        refine K_seq ?_
        refine K_region ?_
        refine W_assign rfl rfl ?_
        refine W_nil ?_
        refine N_then_k ?_
        refine K_ret ?_
        refine N_done1 (.inr rfl) rfl rfl ?_
        refine ⟨_, rfl, ?_, hp.nil⟩
        first
          | (rw [reason_none (fun j hj => hn j (by omega))])
          | (have hra := reason_at ⟨i, hlt⟩; simp only at hra; rw [show s = k11 i by omega, hra]; rfl)))

end Go.Proofs.Ytnokecddkbkhaaa
