/-
  The reference implementation of package octet, walked.
-/
import Derived.Test.YtjkbceclfmjmfaaOct
namespace Go.Proofs.Ytjkbceclfmjmfaa
open Go.Sx Go.RowKit
set_option linter.unusedVariables false
set_option linter.unusedSimpArgs false
set_option maxRecDepth 100000

theorem u8_all {p : UInt8 → Prop} (h : ∀ n : Fin 256, p (UInt8.ofNat n.val)) (c : UInt8) : p c := by
  have := h ⟨c.toNat, c.toNat_lt⟩
  simpa using this

theorem in_spec (c : UInt8) (s : List UInt8) (hl : s.length ≤ 9000000000000000000) : PureF Try.prog 27 [.int .u8 (c.toNat : Int), .string ⟨s.toArray⟩] (.bool (decide (c ∈ s))) := by
  refine PureF.intro go27 Try.func27 rfl rfl fun w0 hp => ?_
  refine K_seq ?_
  refine K_region ?_
  refine W_assign rfl rfl ?_
  refine W_nil ?_
  refine N_then_k ?_
  refine K_seq ?_
  refine K_seq ?_
  refine K_region ?_
  refine W_assign rfl rfl ?_
  refine W_nil ?_
  refine N_then_k ?_
  refine K_block ?_
  refine K_loop (σ := Nat) [4, 5, 6, 7, 8, 9, 10, 11, 12, 13, 14, 15, 16]
      (fun k => [(5, .int .i64 k)])
      (fun k w => Hp w0 [] [] w ∧ k ≤ s.length ∧ c ∉ s.take k)
      (fun k => s.length - k) (0) ?_ ?_ ?_
  · repeat' (first | exact sub_lst_nil (sub_nil _) | refine sub_lst rfl ?_ | (refine sub_lst_eq rfl ?_ ?_; · first | rfl | (simp; done) | (congr 1; omega)))
  · exact ⟨hp, Nat.zero_le _, by simp⟩
  · intro k w hJ
    clear hp
    obtain ⟨hp, hle, ha⟩ := hJ
    rcases Nat.lt_or_ge k (s.length) with hlt | hge
    all_goals (
     refine K_seq ?_
     refine K_seq ?_
     refine K_region ?_
     refine W_move rfl rfl ?_
     refine W_move rfl rfl ?_
     refine W_len_s Try.underlying9 rfl rfl ?_
     first
       | (refine W_lss_t rfl rfl ?_ rfl ?_; (focus (omega)))
       | (refine W_lss_f rfl rfl ?_ rfl ?_; (focus (omega)))
       | (refine W_lss rfl rfl rfl ?_)
     refine W_nil ?_
     refine N_then_k ?_
     first
       | refine K_cond_d rfl (fun hc1 => ?_) (fun hc1 => ?_)
       | refine K_cond_n rfl (fun hc1 => ?_) (fun hc1 => ?_)
       | refine K_cond_nb rfl (fun hc1 => ?_) (fun hc1 => ?_)
       | refine K_cond_t rfl (fun hc1 => ?_) (fun hc1 => ?_)
     · try (exfalso; first | contradiction | omega)
       all_goals (
        refine K_skip ?_
        refine N_then_k ?_
        refine K_seq ?_
        refine K_block ?_
        refine K_seq ?_
        refine K_region ?_
        obtain ⟨x, hc⟩ : ∃ c, s[k]? = some c := ⟨_, List.getElem?_eq_getElem hlt⟩
        refine W_move rfl rfl ?_
        refine W_move rfl rfl ?_
        refine W_index_s Try.underlying9 rfl rfl ?_ (by first | assumption | exact rfl | exact idx_getD (by first | omega | (simp; omega))) rfl ?_
        (focus (omega))
        refine W_move rfl rfl ?_
        first
          | (refine W_eql_t rfl rfl ?_ rfl ?_; (focus (omega)))
          | (refine W_eql_f rfl rfl ?_ rfl ?_; (focus (omega)))
          | (refine W_eql rfl rfl rfl ?_)
        refine W_nil ?_
        refine N_then_k ?_
        first
          | refine K_cond_d rfl (fun hc2 => ?_) (fun hc2 => ?_)
          | refine K_cond_n rfl (fun hc2 => ?_) (fun hc2 => ?_)
          | refine K_cond_nb rfl (fun hc2 => ?_) (fun hc2 => ?_)
          | refine K_cond_t rfl (fun hc2 => ?_) (fun hc2 => ?_)
        · try (exfalso; first | contradiction | omega)
          all_goals (
           refine K_seq ?_
           refine K_region ?_
           refine W_assign rfl rfl ?_
           refine W_nil ?_
           refine N_then_k ?_
           refine K_ret ?_
           refine N_block_ret ?_
           refine N_then_ret ?_
           refine N_then_ret ?_
           refine N_block_ret ?_
           refine N_then_ret ?_
           refine N_done1 (.inr rfl) rfl rfl ?_
           refine ⟨_, rfl, congrArg Value.bool ?_, hp.nil⟩
           first
             | (rw [decide_eq_true]; have e : x = c := UInt8.toNat_inj.1 (by omega); subst e; exact List.mem_of_getElem? hc)
             | (rw [List.take_of_length_le hge] at ha; rw [decide_eq_false ha]))
        · try (exfalso; first | contradiction | omega)
          all_goals (
           refine K_skip ?_
           refine N_block_normal ?_
           refine N_then_k ?_
           refine K_region ?_
           refine W_move rfl rfl ?_
           first
             | (refine W_add rfl rfl (wr_i64 ?_) rfl ?_; (focus (omega)))
             | (refine W_add rfl rfl rfl rfl ?_)
           refine W_assign rfl rfl ?_
           refine W_nil ?_
           refine N_again (k + 1) (sub_end ?_ ?_) ?_ ?_
           · repeat' (first | exact sub_lst_nil (sub_nil _) | refine sub_lst rfl ?_ | (refine sub_lst_eq rfl ?_ ?_; · first | rfl | (simp; done) | (congr 1; omega)))
           · repeat' (first | exact sub_refl _ | exact sub_strip _ _ | refine sub_s_cons rfl ?_ | refine sub_s_lst rfl ?_ | refine sub_s_strip rfl ?_)
           · refine ⟨hp, hlt, ?_⟩
             rw [List.take_add_one, hc]
             simp only [Option.toList_some, List.mem_append, List.mem_singleton, not_or]
             refine ⟨ha, fun e => ?_⟩
             subst e; omega
           · omega))
     · try (exfalso; first | contradiction | omega)
       all_goals (
        refine K_exit ?_
        refine N_then_exit ?_
        refine N_then_exit ?_
        refine N_block_exit ?_
        refine N_then_k ?_
        refine K_seq ?_
        refine K_region ?_
        refine W_assign rfl rfl ?_
        refine W_nil ?_
        refine N_then_k ?_
        refine K_ret ?_
        refine N_done1 (.inr rfl) rfl rfl ?_
        refine ⟨_, rfl, congrArg Value.bool ?_, hp.nil⟩
        first
          | (rw [decide_eq_true]; have e : x = c := UInt8.toNat_inj.1 (by omega); subst e; exact List.mem_of_getElem? hc)
          | (rw [List.take_of_length_le hge] at ha; rw [decide_eq_false ha])))

theorem letters_spec  : PureF Try.prog 28 [] (.string ⟨[65, 66, 67, 68, 69, 70, 71, 72, 73, 74, 75, 76, 77, 78, 79, 80, 81, 82, 83, 84, 85, 86, 87, 88, 89, 90, 97, 98, 99, 100, 101, 102, 103, 104, 105, 106, 107, 108, 109, 110, 111, 112, 113, 114, 115, 116, 117, 118, 119, 120, 121, 122].toArray⟩) := by
  refine PureF.intro go28 Try.func28 rfl rfl fun w0 hp => ?_
  refine K_seq ?_
  refine K_region ?_
  refine W_assign rfl rfl ?_
  refine W_nil ?_
  refine N_then_k ?_
  refine K_seq ?_
  refine K_region ?_
  refine W_assign rfl rfl ?_
  refine W_nil ?_
  refine N_then_k ?_
  refine K_ret ?_
  refine N_done1 (.inr rfl) rfl rfl ?_
  exact ⟨_, rfl, rfl, hp.nil⟩

theorem in_letters (c : UInt8) : Value.bool (decide (c ∈ ([65, 66, 67, 68, 69, 70, 71, 72, 73, 74, 75, 76, 77, 78, 79, 80, 81, 82, 83, 84, 85, 86, 87, 88, 89, 90, 97, 98, 99, 100, 101, 102, 103, 104, 105, 106, 107, 108, 109, 110, 111, 112, 113, 114, 115, 116, 117, 118, 119, 120, 121, 122] : List UInt8))) = .bool (decide (LetterP c.toNat)) := congrArg Value.bool (u8_all (p := fun c => decide (c ∈ ([65, 66, 67, 68, 69, 70, 71, 72, 73, 74, 75, 76, 77, 78, 79, 80, 81, 82, 83, 84, 85, 86, 87, 88, 89, 90, 97, 98, 99, 100, 101, 102, 103, 104, 105, 106, 107, 108, 109, 110, 111, 112, 113, 114, 115, 116, 117, 118, 119, 120, 121, 122] : List UInt8)) = decide (LetterP c.toNat)) (by decide +kernel) c)

theorem in_digits (c : UInt8) : Value.bool (decide (c ∈ ([48, 49, 50, 51, 52, 53, 54, 55, 56, 57] : List UInt8))) = .bool (decide (DigitP c.toNat)) := congrArg Value.bool (u8_all (p := fun c => decide (c ∈ ([48, 49, 50, 51, 52, 53, 54, 55, 56, 57] : List UInt8)) = decide (DigitP c.toNat)) (by decide +kernel) c)

theorem in_class2 : ∀ c : UInt8, (LetterP c.toNat ∨ DigitP c.toNat ∨ c ∈ ([33, 35, 36, 37, 38, 39, 42, 43, 45, 46, 94, 95, 96, 124, 126] : List UInt8)) ↔ TokenP c.toNat := u8_all (by decide +kernel)

theorem in_class3 : ∀ c : UInt8, (LetterP c.toNat ∨ DigitP c.toNat ∨ c ∈ ([45, 46, 95, 126] : List UInt8)) ↔ UnresP c.toNat := u8_all (by decide +kernel)

theorem in_class4 : ∀ c : UInt8, (LetterP c.toNat ∨ DigitP c.toNat ∨ c ∈ ([45, 46, 95, 126, 33, 36, 38, 39, 40, 41, 42, 43, 44, 59, 61, 58, 64] : List UInt8)) ↔ PathP c.toNat := u8_all (by decide +kernel)

theorem class0_spec (c : UInt8) : PureF Try.prog 12 [.int .u8 (c.toNat : Int), .int .i64 0] (.bool (decide (LetterP c.toNat))) := by
  have hu := c.toNat_lt
  refine PureF.intro go12 Try.func12 rfl rfl fun w0 hp => ?_
  refine K_seq ?_
  refine K_region ?_
  refine W_assign rfl rfl ?_
  refine W_nil ?_
  refine N_then_k ?_
  refine K_seq ?_
  refine K_region ?_
  refine W_move rfl rfl ?_
  refine W_pcall hp rfl (letters_spec) rfl ?_
  clear hp; intro w hp
  refine W_pcall hp rfl ((in_spec c [65, 66, 67, 68, 69, 70, 71, 72, 73, 74, 75, 76, 77, 78, 79, 80, 81, 82, 83, 84, 85, 86, 87, 88, 89, 90, 97, 98, 99, 100, 101, 102, 103, 104, 105, 106, 107, 108, 109, 110, 111, 112, 113, 114, 115, 116, 117, 118, 119, 120, 121, 122] (by decide)).eq (in_letters c)) rfl ?_
  clear hp; intro w hp
  refine W_assign rfl rfl ?_
  refine W_nil ?_
  refine N_then_k ?_
  refine K_seq ?_
  refine K_region ?_
  refine W_move rfl rfl ?_
  refine W_pcall hp rfl ((in_spec c [48, 49, 50, 51, 52, 53, 54, 55, 56, 57] (by decide)).eq (in_digits c)) rfl ?_
  clear hp; intro w hp
  refine W_assign rfl rfl ?_
  refine W_nil ?_
  refine N_then_k ?_
  refine K_seq ?_
  refine K_seq ?_
  refine K_region ?_
  refine W_move rfl rfl ?_
  refine W_nil ?_
  refine N_then_k ?_
  refine K_block ?_
  refine K_seq ?_
  refine K_region ?_
  first
    | (refine W_eql_t rfl rfl ?_ rfl ?_; (focus (omega)))
    | (refine W_eql_f rfl rfl ?_ rfl ?_; (focus (omega)))
    | (refine W_eql rfl rfl rfl ?_)
  refine W_assign rfl rfl ?_
  refine W_nil ?_
  refine N_then_k ?_
  first
    | refine K_cond_d rfl (fun hc1 => ?_) (fun hc1 => ?_)
    | refine K_cond_n rfl (fun hc1 => ?_) (fun hc1 => ?_)
    | refine K_cond_nb rfl (fun hc1 => ?_) (fun hc1 => ?_)
    | refine K_cond_t rfl (fun hc1 => ?_) (fun hc1 => ?_)
  · try (exfalso; first | contradiction | omega)
    all_goals (
     refine K_seq ?_
     refine K_region ?_
     refine W_move rfl rfl ?_
     refine W_assign rfl rfl ?_
     refine W_nil ?_
     refine N_then_k ?_
     refine K_ret ?_
     refine N_block_ret ?_
     refine N_then_ret ?_
     refine N_done1 (.inr rfl) rfl rfl ?_
     refine ⟨_, rfl, congrArg Value.bool ?_, hp.nil⟩
     first
       | rfl
       | (refine Bool.eq_iff_iff.2 ?_; simp only [Bool.not_eq_true', decide_eq_true_eq, decide_eq_false_iff_not]; omega)
       | (refine (decide_eq_true ?_).symm; first | omega | (rw [← hcl]; first | exact Or.inl (by assumption) | exact Or.inr (Or.inl (by assumption)) | (constructor <;> intro h <;> first | exact Or.inr (Or.inr h) | (rcases h with h | h | h <;> first | exact h | contradiction))))
       | (refine (decide_eq_false ?_).symm; first | omega | (rw [← hcl]; first | exact Or.inl (by assumption) | exact Or.inr (Or.inl (by assumption)) | (constructor <;> intro h <;> first | exact Or.inr (Or.inr h) | (rcases h with h | h | h <;> first | exact h | contradiction))))
       | (refine decide_eq_decide.2 ?_; first | omega | (rw [← hcl]; first | exact Or.inl (by assumption) | exact Or.inr (Or.inl (by assumption)) | (constructor <;> intro h <;> first | exact Or.inr (Or.inr h) | (rcases h with h | h | h <;> first | exact h | contradiction)))))
  · try (exfalso; first | contradiction | omega)
    all_goals (
     refine K_seq ?_
     refine K_region ?_
     first
       | (refine W_eql_t rfl rfl ?_ rfl ?_; (focus (omega)))
       | (refine W_eql_f rfl rfl ?_ rfl ?_; (focus (omega)))
       | (refine W_eql rfl rfl rfl ?_)
     refine W_assign rfl rfl ?_
     refine W_nil ?_
     refine N_then_k ?_
     first
       | refine K_cond_d rfl (fun hc2 => ?_) (fun hc2 => ?_)
       | refine K_cond_n rfl (fun hc2 => ?_) (fun hc2 => ?_)
       | refine K_cond_nb rfl (fun hc2 => ?_) (fun hc2 => ?_)
       | refine K_cond_t rfl (fun hc2 => ?_) (fun hc2 => ?_)
     · try (exfalso; first | contradiction | omega)
       all_goals (
        refine K_seq ?_
        refine K_region ?_
        refine W_move rfl rfl ?_
        refine W_assign rfl rfl ?_
        refine W_nil ?_
        refine N_then_k ?_
        refine K_ret ?_
        refine N_block_ret ?_
        refine N_then_ret ?_
        refine N_done1 (.inr rfl) rfl rfl ?_
        refine ⟨_, rfl, congrArg Value.bool ?_, hp.nil⟩
        first
          | rfl
          | (refine Bool.eq_iff_iff.2 ?_; simp only [Bool.not_eq_true', decide_eq_true_eq, decide_eq_false_iff_not]; omega)
          | (refine (decide_eq_true ?_).symm; first | omega | (rw [← hcl]; first | exact Or.inl (by assumption) | exact Or.inr (Or.inl (by assumption)) | (constructor <;> intro h <;> first | exact Or.inr (Or.inr h) | (rcases h with h | h | h <;> first | exact h | contradiction))))
          | (refine (decide_eq_false ?_).symm; first | omega | (rw [← hcl]; first | exact Or.inl (by assumption) | exact Or.inr (Or.inl (by assumption)) | (constructor <;> intro h <;> first | exact Or.inr (Or.inr h) | (rcases h with h | h | h <;> first | exact h | contradiction))))
          | (refine decide_eq_decide.2 ?_; first | omega | (rw [← hcl]; first | exact Or.inl (by assumption) | exact Or.inr (Or.inl (by assumption)) | (constructor <;> intro h <;> first | exact Or.inr (Or.inr h) | (rcases h with h | h | h <;> first | exact h | contradiction)))))
     · try (exfalso; first | contradiction | omega)
       all_goals (
        refine K_seq ?_
        refine K_region ?_
        first
          | (refine W_eql_t rfl rfl ?_ rfl ?_; (focus (omega)))
          | (refine W_eql_f rfl rfl ?_ rfl ?_; (focus (omega)))
          | (refine W_eql rfl rfl rfl ?_)
        refine W_assign rfl rfl ?_
        refine W_nil ?_
        refine N_then_k ?_
        first
          | refine K_cond_d rfl (fun hc3 => ?_) (fun hc3 => ?_)
          | refine K_cond_n rfl (fun hc3 => ?_) (fun hc3 => ?_)
          | refine K_cond_nb rfl (fun hc3 => ?_) (fun hc3 => ?_)
          | refine K_cond_t rfl (fun hc3 => ?_) (fun hc3 => ?_)
        · try (exfalso; first | contradiction | omega)
          all_goals (
           refine K_seq ?_
           refine K_region ?_
           refine W_move rfl rfl ?_
           refine W_move rfl rfl ?_
           first
             | refine W_guard_lit_t rfl ?_
             | refine W_guard_lit_f rfl ?_
             | refine W_guard_lit_u rfl ?_
             | refine W_guard_split_d rfl rfl rfl (fun hg4 => ?_) (fun hg4 => ?_)
             | refine W_guard_split_n rfl rfl rfl (fun hg4 => ?_) (fun hg4 => ?_)
             | refine W_guard_split_nb rfl rfl rfl (fun hg4 => ?_) (fun hg4 => ?_)
             | refine W_guard_split rfl rfl rfl (fun hg4 => ?_) (fun hg4 => ?_)
           all_goals try (exfalso; first | contradiction | omega)
           all_goals (
            first
              | (refine W_guard_no rfl rfl rfl ?_)
              | (refine W_guard_un rfl rfl ?_)
              | (refine W_guard_yes rfl ?_
                 refine W_move rfl rfl ?_)
            first
              | (refine W_pick_t rfl rfl rfl ?_)
              | (refine W_pick_f rfl rfl rfl ?_)
              | (refine W_pick_b rfl rfl rfl rfl ?_)
            refine W_move rfl rfl ?_
            first
              | refine W_guard_lit_t rfl ?_
              | refine W_guard_lit_f rfl ?_
              | refine W_guard_lit_u rfl ?_
              | refine W_guard_split_d rfl rfl rfl (fun hg5 => ?_) (fun hg5 => ?_)
              | refine W_guard_split_n rfl rfl rfl (fun hg5 => ?_) (fun hg5 => ?_)
              | refine W_guard_split_nb rfl rfl rfl (fun hg5 => ?_) (fun hg5 => ?_)
              | refine W_guard_split rfl rfl rfl (fun hg5 => ?_) (fun hg5 => ?_)
            all_goals try (exfalso; first | contradiction | omega)
            all_goals (
             first
               | (iterate 2 refine W_guard_no rfl rfl rfl ?_)
               | (iterate 2 refine W_guard_un rfl rfl ?_)
               | (refine W_guard_yes rfl ?_
                  refine W_move rfl rfl ?_
                  refine W_guard_yes rfl ?_
                  refine W_pcall hp rfl (in_spec c [33, 35, 36, 37, 38, 39, 42, 43, 45, 46, 94, 95, 96, 124, 126] (by decide)) rfl ?_
                  clear hp; intro w hp)
             first
               | (refine W_pick_t rfl rfl rfl ?_)
               | (refine W_pick_f rfl rfl rfl ?_)
               | (refine W_pick_b rfl rfl rfl rfl ?_)
             refine W_assign rfl rfl ?_
             refine W_nil ?_
             refine N_then_k ?_
             refine K_ret ?_
             refine N_block_ret ?_
             refine N_then_ret ?_
             refine N_done1 (.inr rfl) rfl rfl ?_
             refine ⟨_, rfl, congrArg Value.bool ?_, hp.nil⟩
             first
               | rfl
               | (refine Bool.eq_iff_iff.2 ?_; simp only [Bool.not_eq_true', decide_eq_true_eq, decide_eq_false_iff_not]; omega)
               | (refine (decide_eq_true ?_).symm; first | omega | (rw [← hcl]; first | exact Or.inl (by assumption) | exact Or.inr (Or.inl (by assumption)) | (constructor <;> intro h <;> first | exact Or.inr (Or.inr h) | (rcases h with h | h | h <;> first | exact h | contradiction))))
               | (refine (decide_eq_false ?_).symm; first | omega | (rw [← hcl]; first | exact Or.inl (by assumption) | exact Or.inr (Or.inl (by assumption)) | (constructor <;> intro h <;> first | exact Or.inr (Or.inr h) | (rcases h with h | h | h <;> first | exact h | contradiction))))
               | (refine decide_eq_decide.2 ?_; first | omega | (rw [← hcl]; first | exact Or.inl (by assumption) | exact Or.inr (Or.inl (by assumption)) | (constructor <;> intro h <;> first | exact Or.inr (Or.inr h) | (rcases h with h | h | h <;> first | exact h | contradiction)))))))
        · try (exfalso; first | contradiction | omega)
          all_goals (
           refine K_seq ?_
           refine K_region ?_
           first
             | (refine W_eql_t rfl rfl ?_ rfl ?_; (focus (omega)))
             | (refine W_eql_f rfl rfl ?_ rfl ?_; (focus (omega)))
             | (refine W_eql rfl rfl rfl ?_)
           refine W_assign rfl rfl ?_
           refine W_nil ?_
           refine N_then_k ?_
           first
             | refine K_cond_d rfl (fun hc6 => ?_) (fun hc6 => ?_)
             | refine K_cond_n rfl (fun hc6 => ?_) (fun hc6 => ?_)
             | refine K_cond_nb rfl (fun hc6 => ?_) (fun hc6 => ?_)
             | refine K_cond_t rfl (fun hc6 => ?_) (fun hc6 => ?_)
           · try (exfalso; first | contradiction | omega)
             all_goals (
              refine K_seq ?_
              refine K_region ?_
              refine W_move rfl rfl ?_
              refine W_move rfl rfl ?_
              first
                | refine W_guard_lit_t rfl ?_
                | refine W_guard_lit_f rfl ?_
                | refine W_guard_lit_u rfl ?_
                | refine W_guard_split_d rfl rfl rfl (fun hg7 => ?_) (fun hg7 => ?_)
                | refine W_guard_split_n rfl rfl rfl (fun hg7 => ?_) (fun hg7 => ?_)
                | refine W_guard_split_nb rfl rfl rfl (fun hg7 => ?_) (fun hg7 => ?_)
                | refine W_guard_split rfl rfl rfl (fun hg7 => ?_) (fun hg7 => ?_)
              all_goals try (exfalso; first | contradiction | omega)
              all_goals (
               first
                 | (refine W_guard_no rfl rfl rfl ?_)
                 | (refine W_guard_un rfl rfl ?_)
                 | (refine W_guard_yes rfl ?_
                    refine W_move rfl rfl ?_)
               first
                 | (refine W_pick_t rfl rfl rfl ?_)
                 | (refine W_pick_f rfl rfl rfl ?_)
                 | (refine W_pick_b rfl rfl rfl rfl ?_)
               refine W_move rfl rfl ?_
               first
                 | refine W_guard_lit_t rfl ?_
                 | refine W_guard_lit_f rfl ?_
                 | refine W_guard_lit_u rfl ?_
                 | refine W_guard_split_d rfl rfl rfl (fun hg8 => ?_) (fun hg8 => ?_)
                 | refine W_guard_split_n rfl rfl rfl (fun hg8 => ?_) (fun hg8 => ?_)
                 | refine W_guard_split_nb rfl rfl rfl (fun hg8 => ?_) (fun hg8 => ?_)
                 | refine W_guard_split rfl rfl rfl (fun hg8 => ?_) (fun hg8 => ?_)
               all_goals try (exfalso; first | contradiction | omega)
               all_goals (
                first
                  | (iterate 2 refine W_guard_no rfl rfl rfl ?_)
                  | (iterate 2 refine W_guard_un rfl rfl ?_)
                  | (refine W_guard_yes rfl ?_
                     refine W_move rfl rfl ?_
                     refine W_guard_yes rfl ?_
                     refine W_pcall hp rfl (in_spec c [45, 46, 95, 126] (by decide)) rfl ?_
                     clear hp; intro w hp)
                first
                  | (refine W_pick_t rfl rfl rfl ?_)
                  | (refine W_pick_f rfl rfl rfl ?_)
                  | (refine W_pick_b rfl rfl rfl rfl ?_)
                refine W_assign rfl rfl ?_
                refine W_nil ?_
                refine N_then_k ?_
                refine K_ret ?_
                refine N_block_ret ?_
                refine N_then_ret ?_
                refine N_done1 (.inr rfl) rfl rfl ?_
                refine ⟨_, rfl, congrArg Value.bool ?_, hp.nil⟩
                first
                  | rfl
                  | (refine Bool.eq_iff_iff.2 ?_; simp only [Bool.not_eq_true', decide_eq_true_eq, decide_eq_false_iff_not]; omega)
                  | (refine (decide_eq_true ?_).symm; first | omega | (rw [← hcl]; first | exact Or.inl (by assumption) | exact Or.inr (Or.inl (by assumption)) | (constructor <;> intro h <;> first | exact Or.inr (Or.inr h) | (rcases h with h | h | h <;> first | exact h | contradiction))))
                  | (refine (decide_eq_false ?_).symm; first | omega | (rw [← hcl]; first | exact Or.inl (by assumption) | exact Or.inr (Or.inl (by assumption)) | (constructor <;> intro h <;> first | exact Or.inr (Or.inr h) | (rcases h with h | h | h <;> first | exact h | contradiction))))
                  | (refine decide_eq_decide.2 ?_; first | omega | (rw [← hcl]; first | exact Or.inl (by assumption) | exact Or.inr (Or.inl (by assumption)) | (constructor <;> intro h <;> first | exact Or.inr (Or.inr h) | (rcases h with h | h | h <;> first | exact h | contradiction)))))))
           · try (exfalso; first | contradiction | omega)
             all_goals (
              refine K_seq ?_
              refine K_region ?_
              first
                | (refine W_eql_t rfl rfl ?_ rfl ?_; (focus (omega)))
                | (refine W_eql_f rfl rfl ?_ rfl ?_; (focus (omega)))
                | (refine W_eql rfl rfl rfl ?_)
              refine W_assign rfl rfl ?_
              refine W_nil ?_
              refine N_then_k ?_
              first
                | refine K_cond_d rfl (fun hc9 => ?_) (fun hc9 => ?_)
                | refine K_cond_n rfl (fun hc9 => ?_) (fun hc9 => ?_)
                | refine K_cond_nb rfl (fun hc9 => ?_) (fun hc9 => ?_)
                | refine K_cond_t rfl (fun hc9 => ?_) (fun hc9 => ?_)
              · try (exfalso; first | contradiction | omega)
                all_goals (
                 refine K_seq ?_
                 refine K_region ?_
                 refine W_move rfl rfl ?_
                 refine W_move rfl rfl ?_
                 first
                   | refine W_guard_lit_t rfl ?_
                   | refine W_guard_lit_f rfl ?_
                   | refine W_guard_lit_u rfl ?_
                   | refine W_guard_split_d rfl rfl rfl (fun hg10 => ?_) (fun hg10 => ?_)
                   | refine W_guard_split_n rfl rfl rfl (fun hg10 => ?_) (fun hg10 => ?_)
                   | refine W_guard_split_nb rfl rfl rfl (fun hg10 => ?_) (fun hg10 => ?_)
                   | refine W_guard_split rfl rfl rfl (fun hg10 => ?_) (fun hg10 => ?_)
                 all_goals try (exfalso; first | contradiction | omega)
                 all_goals (
                  first
                    | (refine W_guard_no rfl rfl rfl ?_)
                    | (refine W_guard_un rfl rfl ?_)
                    | (refine W_guard_yes rfl ?_
                       refine W_move rfl rfl ?_)
                  first
                    | (refine W_pick_t rfl rfl rfl ?_)
                    | (refine W_pick_f rfl rfl rfl ?_)
                    | (refine W_pick_b rfl rfl rfl rfl ?_)
                  refine W_move rfl rfl ?_
                  first
                    | refine W_guard_lit_t rfl ?_
                    | refine W_guard_lit_f rfl ?_
                    | refine W_guard_lit_u rfl ?_
                    | refine W_guard_split_d rfl rfl rfl (fun hg11 => ?_) (fun hg11 => ?_)
                    | refine W_guard_split_n rfl rfl rfl (fun hg11 => ?_) (fun hg11 => ?_)
                    | refine W_guard_split_nb rfl rfl rfl (fun hg11 => ?_) (fun hg11 => ?_)
                    | refine W_guard_split rfl rfl rfl (fun hg11 => ?_) (fun hg11 => ?_)
                  all_goals try (exfalso; first | contradiction | omega)
                  all_goals (
                   first
                     | (iterate 2 refine W_guard_no rfl rfl rfl ?_)
                     | (iterate 2 refine W_guard_un rfl rfl ?_)
                     | (refine W_guard_yes rfl ?_
                        refine W_move rfl rfl ?_
                        refine W_guard_yes rfl ?_
                        refine W_pcall hp rfl (in_spec c [45, 46, 95, 126, 33, 36, 38, 39, 40, 41, 42, 43, 44, 59, 61, 58, 64] (by decide)) rfl ?_
                        clear hp; intro w hp)
                   first
                     | (refine W_pick_t rfl rfl rfl ?_)
                     | (refine W_pick_f rfl rfl rfl ?_)
                     | (refine W_pick_b rfl rfl rfl rfl ?_)
                   refine W_assign rfl rfl ?_
                   refine W_nil ?_
                   refine N_then_k ?_
                   refine K_ret ?_
                   refine N_block_ret ?_
                   refine N_then_ret ?_
                   refine N_done1 (.inr rfl) rfl rfl ?_
                   refine ⟨_, rfl, congrArg Value.bool ?_, hp.nil⟩
                   first
                     | rfl
                     | (refine Bool.eq_iff_iff.2 ?_; simp only [Bool.not_eq_true', decide_eq_true_eq, decide_eq_false_iff_not]; omega)
                     | (refine (decide_eq_true ?_).symm; first | omega | (rw [← hcl]; first | exact Or.inl (by assumption) | exact Or.inr (Or.inl (by assumption)) | (constructor <;> intro h <;> first | exact Or.inr (Or.inr h) | (rcases h with h | h | h <;> first | exact h | contradiction))))
                     | (refine (decide_eq_false ?_).symm; first | omega | (rw [← hcl]; first | exact Or.inl (by assumption) | exact Or.inr (Or.inl (by assumption)) | (constructor <;> intro h <;> first | exact Or.inr (Or.inr h) | (rcases h with h | h | h <;> first | exact h | contradiction))))
                     | (refine decide_eq_decide.2 ?_; first | omega | (rw [← hcl]; first | exact Or.inl (by assumption) | exact Or.inr (Or.inl (by assumption)) | (constructor <;> intro h <;> first | exact Or.inr (Or.inr h) | (rcases h with h | h | h <;> first | exact h | contradiction)))))))
              · try (exfalso; first | contradiction | omega)
                all_goals (
                 refine K_skip ?_
                 refine N_block_normal ?_
                 refine N_then_k ?_
                 refine K_seq ?_
                 refine K_region ?_
                 refine W_move rfl rfl ?_
                 first
                   | (refine W_eql_t rfl rfl ?_ rfl ?_; (focus (omega)))
                   | (refine W_eql_f rfl rfl ?_ rfl ?_; (focus (omega)))
                   | (refine W_eql rfl rfl rfl ?_)
                 refine W_move rfl rfl ?_
                 first
                   | refine W_guard_lit_t rfl ?_
                   | refine W_guard_lit_f rfl ?_
                   | refine W_guard_lit_u rfl ?_
                   | refine W_guard_split_d rfl rfl rfl (fun hg12 => ?_) (fun hg12 => ?_)
                   | refine W_guard_split_n rfl rfl rfl (fun hg12 => ?_) (fun hg12 => ?_)
                   | refine W_guard_split_nb rfl rfl rfl (fun hg12 => ?_) (fun hg12 => ?_)
                   | refine W_guard_split rfl rfl rfl (fun hg12 => ?_) (fun hg12 => ?_)
                 all_goals try (exfalso; first | contradiction | omega)
                 all_goals (
                  first
                    | (iterate 3 refine W_guard_no rfl rfl rfl ?_)
                    | (iterate 3 refine W_guard_un rfl rfl ?_)
                    | (refine W_guard_yes rfl ?_
                       refine W_move rfl rfl ?_
                       refine W_guard_yes rfl ?_
                       first
                         | (refine W_geq_t rfl rfl ?_ rfl ?_; (focus (omega)))
                         | (refine W_geq_f rfl rfl ?_ rfl ?_; (focus (omega)))
                         | (refine W_geq rfl rfl rfl ?_)
                       refine W_guard_yes rfl ?_
                       refine W_move rfl rfl ?_)
                  first
                    | refine W_guard_lit_t rfl ?_
                    | refine W_guard_lit_f rfl ?_
                    | refine W_guard_lit_u rfl ?_
                    | refine W_guard_split_d rfl rfl rfl (fun hg13 => ?_) (fun hg13 => ?_)
                    | refine W_guard_split_n rfl rfl rfl (fun hg13 => ?_) (fun hg13 => ?_)
                    | refine W_guard_split_nb rfl rfl rfl (fun hg13 => ?_) (fun hg13 => ?_)
                    | refine W_guard_split rfl rfl rfl (fun hg13 => ?_) (fun hg13 => ?_)
                  all_goals try (exfalso; first | contradiction | omega)
                  all_goals (
                   first
                     | (iterate 2 refine W_guard_no rfl rfl rfl ?_)
                     | (iterate 2 refine W_guard_un rfl rfl ?_)
                     | (refine W_guard_yes rfl ?_
                        refine W_move rfl rfl ?_
                        refine W_guard_yes rfl ?_
                        first
                          | (refine W_neq_t rfl rfl ?_ rfl ?_; (focus (omega)))
                          | (refine W_neq_f rfl rfl ?_ rfl ?_; (focus (omega)))
                          | (refine W_neq rfl rfl rfl ?_))
                   first
                     | (refine W_guard_no rfl rfl rfl ?_)
                     | (refine W_guard_un rfl rfl ?_)
                     | (refine W_guard_yes rfl ?_
                        first
                          | (refine W_pick_t rfl rfl rfl ?_)
                          | (refine W_pick_f rfl rfl rfl ?_)
                          | (refine W_pick_b rfl rfl rfl rfl ?_))
                   first
                     | (refine W_pick_t rfl rfl rfl ?_)
                     | (refine W_pick_f rfl rfl rfl ?_)
                     | (refine W_pick_b rfl rfl rfl rfl ?_)
                   refine W_assign rfl rfl ?_
                   refine W_nil ?_
                   refine N_then_k ?_
                   refine K_ret ?_
                   refine N_done1 (.inr rfl) rfl rfl ?_
                   refine ⟨_, rfl, congrArg Value.bool ?_, hp.nil⟩
                   first
                     | rfl
                     | (refine Bool.eq_iff_iff.2 ?_; simp only [Bool.not_eq_true', decide_eq_true_eq, decide_eq_false_iff_not]; omega)
                     | (refine (decide_eq_true ?_).symm; first | omega | (rw [← hcl]; first | exact Or.inl (by assumption) | exact Or.inr (Or.inl (by assumption)) | (constructor <;> intro h <;> first | exact Or.inr (Or.inr h) | (rcases h with h | h | h <;> first | exact h | contradiction))))
                     | (refine (decide_eq_false ?_).symm; first | omega | (rw [← hcl]; first | exact Or.inl (by assumption) | exact Or.inr (Or.inl (by assumption)) | (constructor <;> intro h <;> first | exact Or.inr (Or.inr h) | (rcases h with h | h | h <;> first | exact h | contradiction))))
                     | (refine decide_eq_decide.2 ?_; first | omega | (rw [← hcl]; first | exact Or.inl (by assumption) | exact Or.inr (Or.inl (by assumption)) | (constructor <;> intro h <;> first | exact Or.inr (Or.inr h) | (rcases h with h | h | h <;> first | exact h | contradiction)))))))))))

theorem class1_spec (c : UInt8) : PureF Try.prog 12 [.int .u8 (c.toNat : Int), .int .i64 1] (.bool (decide (DigitP c.toNat))) := by
  have hu := c.toNat_lt
  refine PureF.intro go12 Try.func12 rfl rfl fun w0 hp => ?_
  refine K_seq ?_
  refine K_region ?_
  refine W_assign rfl rfl ?_
  refine W_nil ?_
  refine N_then_k ?_
  refine K_seq ?_
  refine K_region ?_
  refine W_move rfl rfl ?_
  refine W_pcall hp rfl (letters_spec) rfl ?_
  clear hp; intro w hp
  refine W_pcall hp rfl ((in_spec c [65, 66, 67, 68, 69, 70, 71, 72, 73, 74, 75, 76, 77, 78, 79, 80, 81, 82, 83, 84, 85, 86, 87, 88, 89, 90, 97, 98, 99, 100, 101, 102, 103, 104, 105, 106, 107, 108, 109, 110, 111, 112, 113, 114, 115, 116, 117, 118, 119, 120, 121, 122] (by decide)).eq (in_letters c)) rfl ?_
  clear hp; intro w hp
  refine W_assign rfl rfl ?_
  refine W_nil ?_
  refine N_then_k ?_
  refine K_seq ?_
  refine K_region ?_
  refine W_move rfl rfl ?_
  refine W_pcall hp rfl ((in_spec c [48, 49, 50, 51, 52, 53, 54, 55, 56, 57] (by decide)).eq (in_digits c)) rfl ?_
  clear hp; intro w hp
  refine W_assign rfl rfl ?_
  refine W_nil ?_
  refine N_then_k ?_
  refine K_seq ?_
  refine K_seq ?_
  refine K_region ?_
  refine W_move rfl rfl ?_
  refine W_nil ?_
  refine N_then_k ?_
  refine K_block ?_
  refine K_seq ?_
  refine K_region ?_
  first
    | (refine W_eql_t rfl rfl ?_ rfl ?_; (focus (omega)))
    | (refine W_eql_f rfl rfl ?_ rfl ?_; (focus (omega)))
    | (refine W_eql rfl rfl rfl ?_)
  refine W_assign rfl rfl ?_
  refine W_nil ?_
  refine N_then_k ?_
  first
    | refine K_cond_d rfl (fun hc1 => ?_) (fun hc1 => ?_)
    | refine K_cond_n rfl (fun hc1 => ?_) (fun hc1 => ?_)
    | refine K_cond_nb rfl (fun hc1 => ?_) (fun hc1 => ?_)
    | refine K_cond_t rfl (fun hc1 => ?_) (fun hc1 => ?_)
  · try (exfalso; first | contradiction | omega)
    all_goals (
     refine K_seq ?_
     refine K_region ?_
     refine W_move rfl rfl ?_
     refine W_assign rfl rfl ?_
     refine W_nil ?_
     refine N_then_k ?_
     refine K_ret ?_
     refine N_block_ret ?_
     refine N_then_ret ?_
     refine N_done1 (.inr rfl) rfl rfl ?_
     refine ⟨_, rfl, congrArg Value.bool ?_, hp.nil⟩
     first
       | rfl
       | (refine Bool.eq_iff_iff.2 ?_; simp only [Bool.not_eq_true', decide_eq_true_eq, decide_eq_false_iff_not]; omega)
       | (refine (decide_eq_true ?_).symm; first | omega | (rw [← hcl]; first | exact Or.inl (by assumption) | exact Or.inr (Or.inl (by assumption)) | (constructor <;> intro h <;> first | exact Or.inr (Or.inr h) | (rcases h with h | h | h <;> first | exact h | contradiction))))
       | (refine (decide_eq_false ?_).symm; first | omega | (rw [← hcl]; first | exact Or.inl (by assumption) | exact Or.inr (Or.inl (by assumption)) | (constructor <;> intro h <;> first | exact Or.inr (Or.inr h) | (rcases h with h | h | h <;> first | exact h | contradiction))))
       | (refine decide_eq_decide.2 ?_; first | omega | (rw [← hcl]; first | exact Or.inl (by assumption) | exact Or.inr (Or.inl (by assumption)) | (constructor <;> intro h <;> first | exact Or.inr (Or.inr h) | (rcases h with h | h | h <;> first | exact h | contradiction)))))
  · try (exfalso; first | contradiction | omega)
    all_goals (
     refine K_seq ?_
     refine K_region ?_
     first
       | (refine W_eql_t rfl rfl ?_ rfl ?_; (focus (omega)))
       | (refine W_eql_f rfl rfl ?_ rfl ?_; (focus (omega)))
       | (refine W_eql rfl rfl rfl ?_)
     refine W_assign rfl rfl ?_
     refine W_nil ?_
     refine N_then_k ?_
     first
       | refine K_cond_d rfl (fun hc2 => ?_) (fun hc2 => ?_)
       | refine K_cond_n rfl (fun hc2 => ?_) (fun hc2 => ?_)
       | refine K_cond_nb rfl (fun hc2 => ?_) (fun hc2 => ?_)
       | refine K_cond_t rfl (fun hc2 => ?_) (fun hc2 => ?_)
     · try (exfalso; first | contradiction | omega)
       all_goals (
        refine K_seq ?_
        refine K_region ?_
        refine W_move rfl rfl ?_
        refine W_assign rfl rfl ?_
        refine W_nil ?_
        refine N_then_k ?_
        refine K_ret ?_
        refine N_block_ret ?_
        refine N_then_ret ?_
        refine N_done1 (.inr rfl) rfl rfl ?_
        refine ⟨_, rfl, congrArg Value.bool ?_, hp.nil⟩
        first
          | rfl
          | (refine Bool.eq_iff_iff.2 ?_; simp only [Bool.not_eq_true', decide_eq_true_eq, decide_eq_false_iff_not]; omega)
          | (refine (decide_eq_true ?_).symm; first | omega | (rw [← hcl]; first | exact Or.inl (by assumption) | exact Or.inr (Or.inl (by assumption)) | (constructor <;> intro h <;> first | exact Or.inr (Or.inr h) | (rcases h with h | h | h <;> first | exact h | contradiction))))
          | (refine (decide_eq_false ?_).symm; first | omega | (rw [← hcl]; first | exact Or.inl (by assumption) | exact Or.inr (Or.inl (by assumption)) | (constructor <;> intro h <;> first | exact Or.inr (Or.inr h) | (rcases h with h | h | h <;> first | exact h | contradiction))))
          | (refine decide_eq_decide.2 ?_; first | omega | (rw [← hcl]; first | exact Or.inl (by assumption) | exact Or.inr (Or.inl (by assumption)) | (constructor <;> intro h <;> first | exact Or.inr (Or.inr h) | (rcases h with h | h | h <;> first | exact h | contradiction)))))
     · try (exfalso; first | contradiction | omega)
       all_goals (
        refine K_seq ?_
        refine K_region ?_
        first
          | (refine W_eql_t rfl rfl ?_ rfl ?_; (focus (omega)))
          | (refine W_eql_f rfl rfl ?_ rfl ?_; (focus (omega)))
          | (refine W_eql rfl rfl rfl ?_)
        refine W_assign rfl rfl ?_
        refine W_nil ?_
        refine N_then_k ?_
        first
          | refine K_cond_d rfl (fun hc3 => ?_) (fun hc3 => ?_)
          | refine K_cond_n rfl (fun hc3 => ?_) (fun hc3 => ?_)
          | refine K_cond_nb rfl (fun hc3 => ?_) (fun hc3 => ?_)
          | refine K_cond_t rfl (fun hc3 => ?_) (fun hc3 => ?_)
        · try (exfalso; first | contradiction | omega)
          all_goals (
           refine K_seq ?_
           refine K_region ?_
           refine W_move rfl rfl ?_
           refine W_move rfl rfl ?_
           first
             | refine W_guard_lit_t rfl ?_
             | refine W_guard_lit_f rfl ?_
             | refine W_guard_lit_u rfl ?_
             | refine W_guard_split_d rfl rfl rfl (fun hg4 => ?_) (fun hg4 => ?_)
             | refine W_guard_split_n rfl rfl rfl (fun hg4 => ?_) (fun hg4 => ?_)
             | refine W_guard_split_nb rfl rfl rfl (fun hg4 => ?_) (fun hg4 => ?_)
             | refine W_guard_split rfl rfl rfl (fun hg4 => ?_) (fun hg4 => ?_)
           all_goals try (exfalso; first | contradiction | omega)
           all_goals (
            first
              | (refine W_guard_no rfl rfl rfl ?_)
              | (refine W_guard_un rfl rfl ?_)
              | (refine W_guard_yes rfl ?_
                 refine W_move rfl rfl ?_)
            first
              | (refine W_pick_t rfl rfl rfl ?_)
              | (refine W_pick_f rfl rfl rfl ?_)
              | (refine W_pick_b rfl rfl rfl rfl ?_)
            refine W_move rfl rfl ?_
            first
              | refine W_guard_lit_t rfl ?_
              | refine W_guard_lit_f rfl ?_
              | refine W_guard_lit_u rfl ?_
              | refine W_guard_split_d rfl rfl rfl (fun hg5 => ?_) (fun hg5 => ?_)
              | refine W_guard_split_n rfl rfl rfl (fun hg5 => ?_) (fun hg5 => ?_)
              | refine W_guard_split_nb rfl rfl rfl (fun hg5 => ?_) (fun hg5 => ?_)
              | refine W_guard_split rfl rfl rfl (fun hg5 => ?_) (fun hg5 => ?_)
            all_goals try (exfalso; first | contradiction | omega)
            all_goals (
             first
               | (iterate 2 refine W_guard_no rfl rfl rfl ?_)
               | (iterate 2 refine W_guard_un rfl rfl ?_)
               | (refine W_guard_yes rfl ?_
                  refine W_move rfl rfl ?_
                  refine W_guard_yes rfl ?_
                  refine W_pcall hp rfl (in_spec c [33, 35, 36, 37, 38, 39, 42, 43, 45, 46, 94, 95, 96, 124, 126] (by decide)) rfl ?_
                  clear hp; intro w hp)
             first
               | (refine W_pick_t rfl rfl rfl ?_)
               | (refine W_pick_f rfl rfl rfl ?_)
               | (refine W_pick_b rfl rfl rfl rfl ?_)
             refine W_assign rfl rfl ?_
             refine W_nil ?_
             refine N_then_k ?_
             refine K_ret ?_
             refine N_block_ret ?_
             refine N_then_ret ?_
             refine N_done1 (.inr rfl) rfl rfl ?_
             refine ⟨_, rfl, congrArg Value.bool ?_, hp.nil⟩
             first
               | rfl
               | (refine Bool.eq_iff_iff.2 ?_; simp only [Bool.not_eq_true', decide_eq_true_eq, decide_eq_false_iff_not]; omega)
               | (refine (decide_eq_true ?_).symm; first | omega | (rw [← hcl]; first | exact Or.inl (by assumption) | exact Or.inr (Or.inl (by assumption)) | (constructor <;> intro h <;> first | exact Or.inr (Or.inr h) | (rcases h with h | h | h <;> first | exact h | contradiction))))
               | (refine (decide_eq_false ?_).symm; first | omega | (rw [← hcl]; first | exact Or.inl (by assumption) | exact Or.inr (Or.inl (by assumption)) | (constructor <;> intro h <;> first | exact Or.inr (Or.inr h) | (rcases h with h | h | h <;> first | exact h | contradiction))))
               | (refine decide_eq_decide.2 ?_; first | omega | (rw [← hcl]; first | exact Or.inl (by assumption) | exact Or.inr (Or.inl (by assumption)) | (constructor <;> intro h <;> first | exact Or.inr (Or.inr h) | (rcases h with h | h | h <;> first | exact h | contradiction)))))))
        · try (exfalso; first | contradiction | omega)
          all_goals (
           refine K_seq ?_
           refine K_region ?_
           first
             | (refine W_eql_t rfl rfl ?_ rfl ?_; (focus (omega)))
             | (refine W_eql_f rfl rfl ?_ rfl ?_; (focus (omega)))
             | (refine W_eql rfl rfl rfl ?_)
           refine W_assign rfl rfl ?_
           refine W_nil ?_
           refine N_then_k ?_
           first
             | refine K_cond_d rfl (fun hc6 => ?_) (fun hc6 => ?_)
             | refine K_cond_n rfl (fun hc6 => ?_) (fun hc6 => ?_)
             | refine K_cond_nb rfl (fun hc6 => ?_) (fun hc6 => ?_)
             | refine K_cond_t rfl (fun hc6 => ?_) (fun hc6 => ?_)
           · try (exfalso; first | contradiction | omega)
             all_goals (
              refine K_seq ?_
              refine K_region ?_
              refine W_move rfl rfl ?_
              refine W_move rfl rfl ?_
              first
                | refine W_guard_lit_t rfl ?_
                | refine W_guard_lit_f rfl ?_
                | refine W_guard_lit_u rfl ?_
                | refine W_guard_split_d rfl rfl rfl (fun hg7 => ?_) (fun hg7 => ?_)
                | refine W_guard_split_n rfl rfl rfl (fun hg7 => ?_) (fun hg7 => ?_)
                | refine W_guard_split_nb rfl rfl rfl (fun hg7 => ?_) (fun hg7 => ?_)
                | refine W_guard_split rfl rfl rfl (fun hg7 => ?_) (fun hg7 => ?_)
              all_goals try (exfalso; first | contradiction | omega)
              all_goals (
               first
                 | (refine W_guard_no rfl rfl rfl ?_)
                 | (refine W_guard_un rfl rfl ?_)
                 | (refine W_guard_yes rfl ?_
                    refine W_move rfl rfl ?_)
               first
                 | (refine W_pick_t rfl rfl rfl ?_)
                 | (refine W_pick_f rfl rfl rfl ?_)
                 | (refine W_pick_b rfl rfl rfl rfl ?_)
               refine W_move rfl rfl ?_
               first
                 | refine W_guard_lit_t rfl ?_
                 | refine W_guard_lit_f rfl ?_
                 | refine W_guard_lit_u rfl ?_
                 | refine W_guard_split_d rfl rfl rfl (fun hg8 => ?_) (fun hg8 => ?_)
                 | refine W_guard_split_n rfl rfl rfl (fun hg8 => ?_) (fun hg8 => ?_)
                 | refine W_guard_split_nb rfl rfl rfl (fun hg8 => ?_) (fun hg8 => ?_)
                 | refine W_guard_split rfl rfl rfl (fun hg8 => ?_) (fun hg8 => ?_)
               all_goals try (exfalso; first | contradiction | omega)
               all_goals (
                first
                  | (iterate 2 refine W_guard_no rfl rfl rfl ?_)
                  | (iterate 2 refine W_guard_un rfl rfl ?_)
                  | (refine W_guard_yes rfl ?_
                     refine W_move rfl rfl ?_
                     refine W_guard_yes rfl ?_
                     refine W_pcall hp rfl (in_spec c [45, 46, 95, 126] (by decide)) rfl ?_
                     clear hp; intro w hp)
                first
                  | (refine W_pick_t rfl rfl rfl ?_)
                  | (refine W_pick_f rfl rfl rfl ?_)
                  | (refine W_pick_b rfl rfl rfl rfl ?_)
                refine W_assign rfl rfl ?_
                refine W_nil ?_
                refine N_then_k ?_
                refine K_ret ?_
                refine N_block_ret ?_
                refine N_then_ret ?_
                refine N_done1 (.inr rfl) rfl rfl ?_
                refine ⟨_, rfl, congrArg Value.bool ?_, hp.nil⟩
                first
                  | rfl
                  | (refine Bool.eq_iff_iff.2 ?_; simp only [Bool.not_eq_true', decide_eq_true_eq, decide_eq_false_iff_not]; omega)
                  | (refine (decide_eq_true ?_).symm; first | omega | (rw [← hcl]; first | exact Or.inl (by assumption) | exact Or.inr (Or.inl (by assumption)) | (constructor <;> intro h <;> first | exact Or.inr (Or.inr h) | (rcases h with h | h | h <;> first | exact h | contradiction))))
                  | (refine (decide_eq_false ?_).symm; first | omega | (rw [← hcl]; first | exact Or.inl (by assumption) | exact Or.inr (Or.inl (by assumption)) | (constructor <;> intro h <;> first | exact Or.inr (Or.inr h) | (rcases h with h | h | h <;> first | exact h | contradiction))))
                  | (refine decide_eq_decide.2 ?_; first | omega | (rw [← hcl]; first | exact Or.inl (by assumption) | exact Or.inr (Or.inl (by assumption)) | (constructor <;> intro h <;> first | exact Or.inr (Or.inr h) | (rcases h with h | h | h <;> first | exact h | contradiction)))))))
           · try (exfalso; first | contradiction | omega)
             all_goals (
              refine K_seq ?_
              refine K_region ?_
              first
                | (refine W_eql_t rfl rfl ?_ rfl ?_; (focus (omega)))
                | (refine W_eql_f rfl rfl ?_ rfl ?_; (focus (omega)))
                | (refine W_eql rfl rfl rfl ?_)
              refine W_assign rfl rfl ?_
              refine W_nil ?_
              refine N_then_k ?_
              first
                | refine K_cond_d rfl (fun hc9 => ?_) (fun hc9 => ?_)
                | refine K_cond_n rfl (fun hc9 => ?_) (fun hc9 => ?_)
                | refine K_cond_nb rfl (fun hc9 => ?_) (fun hc9 => ?_)
                | refine K_cond_t rfl (fun hc9 => ?_) (fun hc9 => ?_)
              · try (exfalso; first | contradiction | omega)
                all_goals (
                 refine K_seq ?_
                 refine K_region ?_
                 refine W_move rfl rfl ?_
                 refine W_move rfl rfl ?_
                 first
                   | refine W_guard_lit_t rfl ?_
                   | refine W_guard_lit_f rfl ?_
                   | refine W_guard_lit_u rfl ?_
                   | refine W_guard_split_d rfl rfl rfl (fun hg10 => ?_) (fun hg10 => ?_)
                   | refine W_guard_split_n rfl rfl rfl (fun hg10 => ?_) (fun hg10 => ?_)
                   | refine W_guard_split_nb rfl rfl rfl (fun hg10 => ?_) (fun hg10 => ?_)
                   | refine W_guard_split rfl rfl rfl (fun hg10 => ?_) (fun hg10 => ?_)
                 all_goals try (exfalso; first | contradiction | omega)
                 all_goals (
                  first
                    | (refine W_guard_no rfl rfl rfl ?_)
                    | (refine W_guard_un rfl rfl ?_)
                    | (refine W_guard_yes rfl ?_
                       refine W_move rfl rfl ?_)
                  first
                    | (refine W_pick_t rfl rfl rfl ?_)
                    | (refine W_pick_f rfl rfl rfl ?_)
                    | (refine W_pick_b rfl rfl rfl rfl ?_)
                  refine W_move rfl rfl ?_
                  first
                    | refine W_guard_lit_t rfl ?_
                    | refine W_guard_lit_f rfl ?_
                    | refine W_guard_lit_u rfl ?_
                    | refine W_guard_split_d rfl rfl rfl (fun hg11 => ?_) (fun hg11 => ?_)
                    | refine W_guard_split_n rfl rfl rfl (fun hg11 => ?_) (fun hg11 => ?_)
                    | refine W_guard_split_nb rfl rfl rfl (fun hg11 => ?_) (fun hg11 => ?_)
                    | refine W_guard_split rfl rfl rfl (fun hg11 => ?_) (fun hg11 => ?_)
                  all_goals try (exfalso; first | contradiction | omega)
                  all_goals (
                   first
                     | (iterate 2 refine W_guard_no rfl rfl rfl ?_)
                     | (iterate 2 refine W_guard_un rfl rfl ?_)
                     | (refine W_guard_yes rfl ?_
                        refine W_move rfl rfl ?_
                        refine W_guard_yes rfl ?_
                        refine W_pcall hp rfl (in_spec c [45, 46, 95, 126, 33, 36, 38, 39, 40, 41, 42, 43, 44, 59, 61, 58, 64] (by decide)) rfl ?_
                        clear hp; intro w hp)
                   first
                     | (refine W_pick_t rfl rfl rfl ?_)
                     | (refine W_pick_f rfl rfl rfl ?_)
                     | (refine W_pick_b rfl rfl rfl rfl ?_)
                   refine W_assign rfl rfl ?_
                   refine W_nil ?_
                   refine N_then_k ?_
                   refine K_ret ?_
                   refine N_block_ret ?_
                   refine N_then_ret ?_
                   refine N_done1 (.inr rfl) rfl rfl ?_
                   refine ⟨_, rfl, congrArg Value.bool ?_, hp.nil⟩
                   first
                     | rfl
                     | (refine Bool.eq_iff_iff.2 ?_; simp only [Bool.not_eq_true', decide_eq_true_eq, decide_eq_false_iff_not]; omega)
                     | (refine (decide_eq_true ?_).symm; first | omega | (rw [← hcl]; first | exact Or.inl (by assumption) | exact Or.inr (Or.inl (by assumption)) | (constructor <;> intro h <;> first | exact Or.inr (Or.inr h) | (rcases h with h | h | h <;> first | exact h | contradiction))))
                     | (refine (decide_eq_false ?_).symm; first | omega | (rw [← hcl]; first | exact Or.inl (by assumption) | exact Or.inr (Or.inl (by assumption)) | (constructor <;> intro h <;> first | exact Or.inr (Or.inr h) | (rcases h with h | h | h <;> first | exact h | contradiction))))
                     | (refine decide_eq_decide.2 ?_; first | omega | (rw [← hcl]; first | exact Or.inl (by assumption) | exact Or.inr (Or.inl (by assumption)) | (constructor <;> intro h <;> first | exact Or.inr (Or.inr h) | (rcases h with h | h | h <;> first | exact h | contradiction)))))))
              · try (exfalso; first | contradiction | omega)
                all_goals (
                 refine K_skip ?_
                 refine N_block_normal ?_
                 refine N_then_k ?_
                 refine K_seq ?_
                 refine K_region ?_
                 refine W_move rfl rfl ?_
                 first
                   | (refine W_eql_t rfl rfl ?_ rfl ?_; (focus (omega)))
                   | (refine W_eql_f rfl rfl ?_ rfl ?_; (focus (omega)))
                   | (refine W_eql rfl rfl rfl ?_)
                 refine W_move rfl rfl ?_
                 first
                   | refine W_guard_lit_t rfl ?_
                   | refine W_guard_lit_f rfl ?_
                   | refine W_guard_lit_u rfl ?_
                   | refine W_guard_split_d rfl rfl rfl (fun hg12 => ?_) (fun hg12 => ?_)
                   | refine W_guard_split_n rfl rfl rfl (fun hg12 => ?_) (fun hg12 => ?_)
                   | refine W_guard_split_nb rfl rfl rfl (fun hg12 => ?_) (fun hg12 => ?_)
                   | refine W_guard_split rfl rfl rfl (fun hg12 => ?_) (fun hg12 => ?_)
                 all_goals try (exfalso; first | contradiction | omega)
                 all_goals (
                  first
                    | (iterate 3 refine W_guard_no rfl rfl rfl ?_)
                    | (iterate 3 refine W_guard_un rfl rfl ?_)
                    | (refine W_guard_yes rfl ?_
                       refine W_move rfl rfl ?_
                       refine W_guard_yes rfl ?_
                       first
                         | (refine W_geq_t rfl rfl ?_ rfl ?_; (focus (omega)))
                         | (refine W_geq_f rfl rfl ?_ rfl ?_; (focus (omega)))
                         | (refine W_geq rfl rfl rfl ?_)
                       refine W_guard_yes rfl ?_
                       refine W_move rfl rfl ?_)
                  first
                    | refine W_guard_lit_t rfl ?_
                    | refine W_guard_lit_f rfl ?_
                    | refine W_guard_lit_u rfl ?_
                    | refine W_guard_split_d rfl rfl rfl (fun hg13 => ?_) (fun hg13 => ?_)
                    | refine W_guard_split_n rfl rfl rfl (fun hg13 => ?_) (fun hg13 => ?_)
                    | refine W_guard_split_nb rfl rfl rfl (fun hg13 => ?_) (fun hg13 => ?_)
                    | refine W_guard_split rfl rfl rfl (fun hg13 => ?_) (fun hg13 => ?_)
                  all_goals try (exfalso; first | contradiction | omega)
                  all_goals (
                   first
                     | (iterate 2 refine W_guard_no rfl rfl rfl ?_)
                     | (iterate 2 refine W_guard_un rfl rfl ?_)
                     | (refine W_guard_yes rfl ?_
                        refine W_move rfl rfl ?_
                        refine W_guard_yes rfl ?_
                        first
                          | (refine W_neq_t rfl rfl ?_ rfl ?_; (focus (omega)))
                          | (refine W_neq_f rfl rfl ?_ rfl ?_; (focus (omega)))
                          | (refine W_neq rfl rfl rfl ?_))
                   first
                     | (refine W_guard_no rfl rfl rfl ?_)
                     | (refine W_guard_un rfl rfl ?_)
                     | (refine W_guard_yes rfl ?_
                        first
                          | (refine W_pick_t rfl rfl rfl ?_)
                          | (refine W_pick_f rfl rfl rfl ?_)
                          | (refine W_pick_b rfl rfl rfl rfl ?_))
                   first
                     | (refine W_pick_t rfl rfl rfl ?_)
                     | (refine W_pick_f rfl rfl rfl ?_)
                     | (refine W_pick_b rfl rfl rfl rfl ?_)
                   refine W_assign rfl rfl ?_
                   refine W_nil ?_
                   refine N_then_k ?_
                   refine K_ret ?_
                   refine N_done1 (.inr rfl) rfl rfl ?_
                   refine ⟨_, rfl, congrArg Value.bool ?_, hp.nil⟩
                   first
                     | rfl
                     | (refine Bool.eq_iff_iff.2 ?_; simp only [Bool.not_eq_true', decide_eq_true_eq, decide_eq_false_iff_not]; omega)
                     | (refine (decide_eq_true ?_).symm; first | omega | (rw [← hcl]; first | exact Or.inl (by assumption) | exact Or.inr (Or.inl (by assumption)) | (constructor <;> intro h <;> first | exact Or.inr (Or.inr h) | (rcases h with h | h | h <;> first | exact h | contradiction))))
                     | (refine (decide_eq_false ?_).symm; first | omega | (rw [← hcl]; first | exact Or.inl (by assumption) | exact Or.inr (Or.inl (by assumption)) | (constructor <;> intro h <;> first | exact Or.inr (Or.inr h) | (rcases h with h | h | h <;> first | exact h | contradiction))))
                     | (refine decide_eq_decide.2 ?_; first | omega | (rw [← hcl]; first | exact Or.inl (by assumption) | exact Or.inr (Or.inl (by assumption)) | (constructor <;> intro h <;> first | exact Or.inr (Or.inr h) | (rcases h with h | h | h <;> first | exact h | contradiction)))))))))))

theorem class2_spec (c : UInt8) : PureF Try.prog 12 [.int .u8 (c.toNat : Int), .int .i64 2] (.bool (decide (TokenP c.toNat))) := by
  have hu := c.toNat_lt
  have hcl := in_class2 c
  refine PureF.intro go12 Try.func12 rfl rfl fun w0 hp => ?_
  refine K_seq ?_
  refine K_region ?_
  refine W_assign rfl rfl ?_
  refine W_nil ?_
  refine N_then_k ?_
  refine K_seq ?_
  refine K_region ?_
  refine W_move rfl rfl ?_
  refine W_pcall hp rfl (letters_spec) rfl ?_
  clear hp; intro w hp
  refine W_pcall hp rfl ((in_spec c [65, 66, 67, 68, 69, 70, 71, 72, 73, 74, 75, 76, 77, 78, 79, 80, 81, 82, 83, 84, 85, 86, 87, 88, 89, 90, 97, 98, 99, 100, 101, 102, 103, 104, 105, 106, 107, 108, 109, 110, 111, 112, 113, 114, 115, 116, 117, 118, 119, 120, 121, 122] (by decide)).eq (in_letters c)) rfl ?_
  clear hp; intro w hp
  refine W_assign rfl rfl ?_
  refine W_nil ?_
  refine N_then_k ?_
  refine K_seq ?_
  refine K_region ?_
  refine W_move rfl rfl ?_
  refine W_pcall hp rfl ((in_spec c [48, 49, 50, 51, 52, 53, 54, 55, 56, 57] (by decide)).eq (in_digits c)) rfl ?_
  clear hp; intro w hp
  refine W_assign rfl rfl ?_
  refine W_nil ?_
  refine N_then_k ?_
  refine K_seq ?_
  refine K_seq ?_
  refine K_region ?_
  refine W_move rfl rfl ?_
  refine W_nil ?_
  refine N_then_k ?_
  refine K_block ?_
  refine K_seq ?_
  refine K_region ?_
  first
    | (refine W_eql_t rfl rfl ?_ rfl ?_; (focus (omega)))
    | (refine W_eql_f rfl rfl ?_ rfl ?_; (focus (omega)))
    | (refine W_eql rfl rfl rfl ?_)
  refine W_assign rfl rfl ?_
  refine W_nil ?_
  refine N_then_k ?_
  first
    | refine K_cond_d rfl (fun hc1 => ?_) (fun hc1 => ?_)
    | refine K_cond_n rfl (fun hc1 => ?_) (fun hc1 => ?_)
    | refine K_cond_nb rfl (fun hc1 => ?_) (fun hc1 => ?_)
    | refine K_cond_t rfl (fun hc1 => ?_) (fun hc1 => ?_)
  · try (exfalso; first | contradiction | omega)
    all_goals (
     refine K_seq ?_
     refine K_region ?_
     refine W_move rfl rfl ?_
     refine W_assign rfl rfl ?_
     refine W_nil ?_
     refine N_then_k ?_
     refine K_ret ?_
     refine N_block_ret ?_
     refine N_then_ret ?_
     refine N_done1 (.inr rfl) rfl rfl ?_
     refine ⟨_, rfl, congrArg Value.bool ?_, hp.nil⟩
     first
       | rfl
       | (refine Bool.eq_iff_iff.2 ?_; simp only [Bool.not_eq_true', decide_eq_true_eq, decide_eq_false_iff_not]; omega)
       | (refine (decide_eq_true ?_).symm; first | omega | (rw [← hcl]; first | exact Or.inl (by assumption) | exact Or.inr (Or.inl (by assumption)) | (constructor <;> intro h <;> first | exact Or.inr (Or.inr h) | (rcases h with h | h | h <;> first | exact h | contradiction))))
       | (refine (decide_eq_false ?_).symm; first | omega | (rw [← hcl]; first | exact Or.inl (by assumption) | exact Or.inr (Or.inl (by assumption)) | (constructor <;> intro h <;> first | exact Or.inr (Or.inr h) | (rcases h with h | h | h <;> first | exact h | contradiction))))
       | (refine decide_eq_decide.2 ?_; first | omega | (rw [← hcl]; first | exact Or.inl (by assumption) | exact Or.inr (Or.inl (by assumption)) | (constructor <;> intro h <;> first | exact Or.inr (Or.inr h) | (rcases h with h | h | h <;> first | exact h | contradiction)))))
  · try (exfalso; first | contradiction | omega)
    all_goals (
     refine K_seq ?_
     refine K_region ?_
     first
       | (refine W_eql_t rfl rfl ?_ rfl ?_; (focus (omega)))
       | (refine W_eql_f rfl rfl ?_ rfl ?_; (focus (omega)))
       | (refine W_eql rfl rfl rfl ?_)
     refine W_assign rfl rfl ?_
     refine W_nil ?_
     refine N_then_k ?_
     first
       | refine K_cond_d rfl (fun hc2 => ?_) (fun hc2 => ?_)
       | refine K_cond_n rfl (fun hc2 => ?_) (fun hc2 => ?_)
       | refine K_cond_nb rfl (fun hc2 => ?_) (fun hc2 => ?_)
       | refine K_cond_t rfl (fun hc2 => ?_) (fun hc2 => ?_)
     · try (exfalso; first | contradiction | omega)
       all_goals (
        refine K_seq ?_
        refine K_region ?_
        refine W_move rfl rfl ?_
        refine W_assign rfl rfl ?_
        refine W_nil ?_
        refine N_then_k ?_
        refine K_ret ?_
        refine N_block_ret ?_
        refine N_then_ret ?_
        refine N_done1 (.inr rfl) rfl rfl ?_
        refine ⟨_, rfl, congrArg Value.bool ?_, hp.nil⟩
        first
          | rfl
          | (refine Bool.eq_iff_iff.2 ?_; simp only [Bool.not_eq_true', decide_eq_true_eq, decide_eq_false_iff_not]; omega)
          | (refine (decide_eq_true ?_).symm; first | omega | (rw [← hcl]; first | exact Or.inl (by assumption) | exact Or.inr (Or.inl (by assumption)) | (constructor <;> intro h <;> first | exact Or.inr (Or.inr h) | (rcases h with h | h | h <;> first | exact h | contradiction))))
          | (refine (decide_eq_false ?_).symm; first | omega | (rw [← hcl]; first | exact Or.inl (by assumption) | exact Or.inr (Or.inl (by assumption)) | (constructor <;> intro h <;> first | exact Or.inr (Or.inr h) | (rcases h with h | h | h <;> first | exact h | contradiction))))
          | (refine decide_eq_decide.2 ?_; first | omega | (rw [← hcl]; first | exact Or.inl (by assumption) | exact Or.inr (Or.inl (by assumption)) | (constructor <;> intro h <;> first | exact Or.inr (Or.inr h) | (rcases h with h | h | h <;> first | exact h | contradiction)))))
     · try (exfalso; first | contradiction | omega)
       all_goals (
        refine K_seq ?_
        refine K_region ?_
        first
          | (refine W_eql_t rfl rfl ?_ rfl ?_; (focus (omega)))
          | (refine W_eql_f rfl rfl ?_ rfl ?_; (focus (omega)))
          | (refine W_eql rfl rfl rfl ?_)
        refine W_assign rfl rfl ?_
        refine W_nil ?_
        refine N_then_k ?_
        first
          | refine K_cond_d rfl (fun hc3 => ?_) (fun hc3 => ?_)
          | refine K_cond_n rfl (fun hc3 => ?_) (fun hc3 => ?_)
          | refine K_cond_nb rfl (fun hc3 => ?_) (fun hc3 => ?_)
          | refine K_cond_t rfl (fun hc3 => ?_) (fun hc3 => ?_)
        · try (exfalso; first | contradiction | omega)
          all_goals (
           refine K_seq ?_
           refine K_region ?_
           refine W_move rfl rfl ?_
           refine W_move rfl rfl ?_
           first
             | refine W_guard_lit_t rfl ?_
             | refine W_guard_lit_f rfl ?_
             | refine W_guard_lit_u rfl ?_
             | refine W_guard_split_d rfl rfl rfl (fun hg4 => ?_) (fun hg4 => ?_)
             | refine W_guard_split_n rfl rfl rfl (fun hg4 => ?_) (fun hg4 => ?_)
             | refine W_guard_split_nb rfl rfl rfl (fun hg4 => ?_) (fun hg4 => ?_)
             | refine W_guard_split rfl rfl rfl (fun hg4 => ?_) (fun hg4 => ?_)
           all_goals try (exfalso; first | contradiction | omega)
           all_goals (
            first
              | (refine W_guard_no rfl rfl rfl ?_)
              | (refine W_guard_un rfl rfl ?_)
              | (refine W_guard_yes rfl ?_
                 refine W_move rfl rfl ?_)
            first
              | (refine W_pick_t rfl rfl rfl ?_)
              | (refine W_pick_f rfl rfl rfl ?_)
              | (refine W_pick_b rfl rfl rfl rfl ?_)
            refine W_move rfl rfl ?_
            first
              | refine W_guard_lit_t rfl ?_
              | refine W_guard_lit_f rfl ?_
              | refine W_guard_lit_u rfl ?_
              | refine W_guard_split_d rfl rfl rfl (fun hg5 => ?_) (fun hg5 => ?_)
              | refine W_guard_split_n rfl rfl rfl (fun hg5 => ?_) (fun hg5 => ?_)
              | refine W_guard_split_nb rfl rfl rfl (fun hg5 => ?_) (fun hg5 => ?_)
              | refine W_guard_split rfl rfl rfl (fun hg5 => ?_) (fun hg5 => ?_)
            all_goals try (exfalso; first | contradiction | omega)
            all_goals (
             first
               | (iterate 2 refine W_guard_no rfl rfl rfl ?_)
               | (iterate 2 refine W_guard_un rfl rfl ?_)
               | (refine W_guard_yes rfl ?_
                  refine W_move rfl rfl ?_
                  refine W_guard_yes rfl ?_
                  refine W_pcall hp rfl (in_spec c [33, 35, 36, 37, 38, 39, 42, 43, 45, 46, 94, 95, 96, 124, 126] (by decide)) rfl ?_
                  clear hp; intro w hp)
             first
               | (refine W_pick_t rfl rfl rfl ?_)
               | (refine W_pick_f rfl rfl rfl ?_)
               | (refine W_pick_b rfl rfl rfl rfl ?_)
             refine W_assign rfl rfl ?_
             refine W_nil ?_
             refine N_then_k ?_
             refine K_ret ?_
             refine N_block_ret ?_
             refine N_then_ret ?_
             refine N_done1 (.inr rfl) rfl rfl ?_
             refine ⟨_, rfl, congrArg Value.bool ?_, hp.nil⟩
             first
               | rfl
               | (refine Bool.eq_iff_iff.2 ?_; simp only [Bool.not_eq_true', decide_eq_true_eq, decide_eq_false_iff_not]; omega)
               | (refine (decide_eq_true ?_).symm; first | omega | (rw [← hcl]; first | exact Or.inl (by assumption) | exact Or.inr (Or.inl (by assumption)) | (constructor <;> intro h <;> first | exact Or.inr (Or.inr h) | (rcases h with h | h | h <;> first | exact h | contradiction))))
               | (refine (decide_eq_false ?_).symm; first | omega | (rw [← hcl]; first | exact Or.inl (by assumption) | exact Or.inr (Or.inl (by assumption)) | (constructor <;> intro h <;> first | exact Or.inr (Or.inr h) | (rcases h with h | h | h <;> first | exact h | contradiction))))
               | (refine decide_eq_decide.2 ?_; first | omega | (rw [← hcl]; first | exact Or.inl (by assumption) | exact Or.inr (Or.inl (by assumption)) | (constructor <;> intro h <;> first | exact Or.inr (Or.inr h) | (rcases h with h | h | h <;> first | exact h | contradiction)))))))
        · try (exfalso; first | contradiction | omega)
          all_goals (
           refine K_seq ?_
           refine K_region ?_
           first
             | (refine W_eql_t rfl rfl ?_ rfl ?_; (focus (omega)))
             | (refine W_eql_f rfl rfl ?_ rfl ?_; (focus (omega)))
             | (refine W_eql rfl rfl rfl ?_)
           refine W_assign rfl rfl ?_
           refine W_nil ?_
           refine N_then_k ?_
           first
             | refine K_cond_d rfl (fun hc6 => ?_) (fun hc6 => ?_)
             | refine K_cond_n rfl (fun hc6 => ?_) (fun hc6 => ?_)
             | refine K_cond_nb rfl (fun hc6 => ?_) (fun hc6 => ?_)
             | refine K_cond_t rfl (fun hc6 => ?_) (fun hc6 => ?_)
           · try (exfalso; first | contradiction | omega)
             all_goals (
              refine K_seq ?_
              refine K_region ?_
              refine W_move rfl rfl ?_
              refine W_move rfl rfl ?_
              first
                | refine W_guard_lit_t rfl ?_
                | refine W_guard_lit_f rfl ?_
                | refine W_guard_lit_u rfl ?_
                | refine W_guard_split_d rfl rfl rfl (fun hg7 => ?_) (fun hg7 => ?_)
                | refine W_guard_split_n rfl rfl rfl (fun hg7 => ?_) (fun hg7 => ?_)
                | refine W_guard_split_nb rfl rfl rfl (fun hg7 => ?_) (fun hg7 => ?_)
                | refine W_guard_split rfl rfl rfl (fun hg7 => ?_) (fun hg7 => ?_)
              all_goals try (exfalso; first | contradiction | omega)
              all_goals (
               first
                 | (refine W_guard_no rfl rfl rfl ?_)
                 | (refine W_guard_un rfl rfl ?_)
                 | (refine W_guard_yes rfl ?_
                    refine W_move rfl rfl ?_)
               first
                 | (refine W_pick_t rfl rfl rfl ?_)
                 | (refine W_pick_f rfl rfl rfl ?_)
                 | (refine W_pick_b rfl rfl rfl rfl ?_)
               refine W_move rfl rfl ?_
               first
                 | refine W_guard_lit_t rfl ?_
                 | refine W_guard_lit_f rfl ?_
                 | refine W_guard_lit_u rfl ?_
                 | refine W_guard_split_d rfl rfl rfl (fun hg8 => ?_) (fun hg8 => ?_)
                 | refine W_guard_split_n rfl rfl rfl (fun hg8 => ?_) (fun hg8 => ?_)
                 | refine W_guard_split_nb rfl rfl rfl (fun hg8 => ?_) (fun hg8 => ?_)
                 | refine W_guard_split rfl rfl rfl (fun hg8 => ?_) (fun hg8 => ?_)
               all_goals try (exfalso; first | contradiction | omega)
               all_goals (
                first
                  | (iterate 2 refine W_guard_no rfl rfl rfl ?_)
                  | (iterate 2 refine W_guard_un rfl rfl ?_)
                  | (refine W_guard_yes rfl ?_
                     refine W_move rfl rfl ?_
                     refine W_guard_yes rfl ?_
                     refine W_pcall hp rfl (in_spec c [45, 46, 95, 126] (by decide)) rfl ?_
                     clear hp; intro w hp)
                first
                  | (refine W_pick_t rfl rfl rfl ?_)
                  | (refine W_pick_f rfl rfl rfl ?_)
                  | (refine W_pick_b rfl rfl rfl rfl ?_)
                refine W_assign rfl rfl ?_
                refine W_nil ?_
                refine N_then_k ?_
                refine K_ret ?_
                refine N_block_ret ?_
                refine N_then_ret ?_
                refine N_done1 (.inr rfl) rfl rfl ?_
                refine ⟨_, rfl, congrArg Value.bool ?_, hp.nil⟩
                first
                  | rfl
                  | (refine Bool.eq_iff_iff.2 ?_; simp only [Bool.not_eq_true', decide_eq_true_eq, decide_eq_false_iff_not]; omega)
                  | (refine (decide_eq_true ?_).symm; first | omega | (rw [← hcl]; first | exact Or.inl (by assumption) | exact Or.inr (Or.inl (by assumption)) | (constructor <;> intro h <;> first | exact Or.inr (Or.inr h) | (rcases h with h | h | h <;> first | exact h | contradiction))))
                  | (refine (decide_eq_false ?_).symm; first | omega | (rw [← hcl]; first | exact Or.inl (by assumption) | exact Or.inr (Or.inl (by assumption)) | (constructor <;> intro h <;> first | exact Or.inr (Or.inr h) | (rcases h with h | h | h <;> first | exact h | contradiction))))
                  | (refine decide_eq_decide.2 ?_; first | omega | (rw [← hcl]; first | exact Or.inl (by assumption) | exact Or.inr (Or.inl (by assumption)) | (constructor <;> intro h <;> first | exact Or.inr (Or.inr h) | (rcases h with h | h | h <;> first | exact h | contradiction)))))))
           · try (exfalso; first | contradiction | omega)
             all_goals (
              refine K_seq ?_
              refine K_region ?_
              first
                | (refine W_eql_t rfl rfl ?_ rfl ?_; (focus (omega)))
                | (refine W_eql_f rfl rfl ?_ rfl ?_; (focus (omega)))
                | (refine W_eql rfl rfl rfl ?_)
              refine W_assign rfl rfl ?_
              refine W_nil ?_
              refine N_then_k ?_
              first
                | refine K_cond_d rfl (fun hc9 => ?_) (fun hc9 => ?_)
                | refine K_cond_n rfl (fun hc9 => ?_) (fun hc9 => ?_)
                | refine K_cond_nb rfl (fun hc9 => ?_) (fun hc9 => ?_)
                | refine K_cond_t rfl (fun hc9 => ?_) (fun hc9 => ?_)
              · try (exfalso; first | contradiction | omega)
                all_goals (
                 refine K_seq ?_
                 refine K_region ?_
                 refine W_move rfl rfl ?_
                 refine W_move rfl rfl ?_
                 first
                   | refine W_guard_lit_t rfl ?_
                   | refine W_guard_lit_f rfl ?_
                   | refine W_guard_lit_u rfl ?_
                   | refine W_guard_split_d rfl rfl rfl (fun hg10 => ?_) (fun hg10 => ?_)
                   | refine W_guard_split_n rfl rfl rfl (fun hg10 => ?_) (fun hg10 => ?_)
                   | refine W_guard_split_nb rfl rfl rfl (fun hg10 => ?_) (fun hg10 => ?_)
                   | refine W_guard_split rfl rfl rfl (fun hg10 => ?_) (fun hg10 => ?_)
                 all_goals try (exfalso; first | contradiction | omega)
                 all_goals (
                  first
                    | (refine W_guard_no rfl rfl rfl ?_)
                    | (refine W_guard_un rfl rfl ?_)
                    | (refine W_guard_yes rfl ?_
                       refine W_move rfl rfl ?_)
                  first
                    | (refine W_pick_t rfl rfl rfl ?_)
                    | (refine W_pick_f rfl rfl rfl ?_)
                    | (refine W_pick_b rfl rfl rfl rfl ?_)
                  refine W_move rfl rfl ?_
                  first
                    | refine W_guard_lit_t rfl ?_
                    | refine W_guard_lit_f rfl ?_
                    | refine W_guard_lit_u rfl ?_
                    | refine W_guard_split_d rfl rfl rfl (fun hg11 => ?_) (fun hg11 => ?_)
                    | refine W_guard_split_n rfl rfl rfl (fun hg11 => ?_) (fun hg11 => ?_)
                    | refine W_guard_split_nb rfl rfl rfl (fun hg11 => ?_) (fun hg11 => ?_)
                    | refine W_guard_split rfl rfl rfl (fun hg11 => ?_) (fun hg11 => ?_)
                  all_goals try (exfalso; first | contradiction | omega)
                  all_goals (
                   first
                     | (iterate 2 refine W_guard_no rfl rfl rfl ?_)
                     | (iterate 2 refine W_guard_un rfl rfl ?_)
                     | (refine W_guard_yes rfl ?_
                        refine W_move rfl rfl ?_
                        refine W_guard_yes rfl ?_
                        refine W_pcall hp rfl (in_spec c [45, 46, 95, 126, 33, 36, 38, 39, 40, 41, 42, 43, 44, 59, 61, 58, 64] (by decide)) rfl ?_
                        clear hp; intro w hp)
                   first
                     | (refine W_pick_t rfl rfl rfl ?_)
                     | (refine W_pick_f rfl rfl rfl ?_)
                     | (refine W_pick_b rfl rfl rfl rfl ?_)
                   refine W_assign rfl rfl ?_
                   refine W_nil ?_
                   refine N_then_k ?_
                   refine K_ret ?_
                   refine N_block_ret ?_
                   refine N_then_ret ?_
                   refine N_done1 (.inr rfl) rfl rfl ?_
                   refine ⟨_, rfl, congrArg Value.bool ?_, hp.nil⟩
                   first
                     | rfl
                     | (refine Bool.eq_iff_iff.2 ?_; simp only [Bool.not_eq_true', decide_eq_true_eq, decide_eq_false_iff_not]; omega)
                     | (refine (decide_eq_true ?_).symm; first | omega | (rw [← hcl]; first | exact Or.inl (by assumption) | exact Or.inr (Or.inl (by assumption)) | (constructor <;> intro h <;> first | exact Or.inr (Or.inr h) | (rcases h with h | h | h <;> first | exact h | contradiction))))
                     | (refine (decide_eq_false ?_).symm; first | omega | (rw [← hcl]; first | exact Or.inl (by assumption) | exact Or.inr (Or.inl (by assumption)) | (constructor <;> intro h <;> first | exact Or.inr (Or.inr h) | (rcases h with h | h | h <;> first | exact h | contradiction))))
                     | (refine decide_eq_decide.2 ?_; first | omega | (rw [← hcl]; first | exact Or.inl (by assumption) | exact Or.inr (Or.inl (by assumption)) | (constructor <;> intro h <;> first | exact Or.inr (Or.inr h) | (rcases h with h | h | h <;> first | exact h | contradiction)))))))
              · try (exfalso; first | contradiction | omega)
                all_goals (
                 refine K_skip ?_
                 refine N_block_normal ?_
                 refine N_then_k ?_
                 refine K_seq ?_
                 refine K_region ?_
                 refine W_move rfl rfl ?_
                 first
                   | (refine W_eql_t rfl rfl ?_ rfl ?_; (focus (omega)))
                   | (refine W_eql_f rfl rfl ?_ rfl ?_; (focus (omega)))
                   | (refine W_eql rfl rfl rfl ?_)
                 refine W_move rfl rfl ?_
                 first
                   | refine W_guard_lit_t rfl ?_
                   | refine W_guard_lit_f rfl ?_
                   | refine W_guard_lit_u rfl ?_
                   | refine W_guard_split_d rfl rfl rfl (fun hg12 => ?_) (fun hg12 => ?_)
                   | refine W_guard_split_n rfl rfl rfl (fun hg12 => ?_) (fun hg12 => ?_)
                   | refine W_guard_split_nb rfl rfl rfl (fun hg12 => ?_) (fun hg12 => ?_)
                   | refine W_guard_split rfl rfl rfl (fun hg12 => ?_) (fun hg12 => ?_)
                 all_goals try (exfalso; first | contradiction | omega)
                 all_goals (
                  first
                    | (iterate 3 refine W_guard_no rfl rfl rfl ?_)
                    | (iterate 3 refine W_guard_un rfl rfl ?_)
                    | (refine W_guard_yes rfl ?_
                       refine W_move rfl rfl ?_
                       refine W_guard_yes rfl ?_
                       first
                         | (refine W_geq_t rfl rfl ?_ rfl ?_; (focus (omega)))
                         | (refine W_geq_f rfl rfl ?_ rfl ?_; (focus (omega)))
                         | (refine W_geq rfl rfl rfl ?_)
                       refine W_guard_yes rfl ?_
                       refine W_move rfl rfl ?_)
                  first
                    | refine W_guard_lit_t rfl ?_
                    | refine W_guard_lit_f rfl ?_
                    | refine W_guard_lit_u rfl ?_
                    | refine W_guard_split_d rfl rfl rfl (fun hg13 => ?_) (fun hg13 => ?_)
                    | refine W_guard_split_n rfl rfl rfl (fun hg13 => ?_) (fun hg13 => ?_)
                    | refine W_guard_split_nb rfl rfl rfl (fun hg13 => ?_) (fun hg13 => ?_)
                    | refine W_guard_split rfl rfl rfl (fun hg13 => ?_) (fun hg13 => ?_)
                  all_goals try (exfalso; first | contradiction | omega)
                  all_goals (
                   first
                     | (iterate 2 refine W_guard_no rfl rfl rfl ?_)
                     | (iterate 2 refine W_guard_un rfl rfl ?_)
                     | (refine W_guard_yes rfl ?_
                        refine W_move rfl rfl ?_
                        refine W_guard_yes rfl ?_
                        first
                          | (refine W_neq_t rfl rfl ?_ rfl ?_; (focus (omega)))
                          | (refine W_neq_f rfl rfl ?_ rfl ?_; (focus (omega)))
                          | (refine W_neq rfl rfl rfl ?_))
                   first
                     | (refine W_guard_no rfl rfl rfl ?_)
                     | (refine W_guard_un rfl rfl ?_)
                     | (refine W_guard_yes rfl ?_
                        first
                          | (refine W_pick_t rfl rfl rfl ?_)
                          | (refine W_pick_f rfl rfl rfl ?_)
                          | (refine W_pick_b rfl rfl rfl rfl ?_))
                   first
                     | (refine W_pick_t rfl rfl rfl ?_)
                     | (refine W_pick_f rfl rfl rfl ?_)
                     | (refine W_pick_b rfl rfl rfl rfl ?_)
                   refine W_assign rfl rfl ?_
                   refine W_nil ?_
                   refine N_then_k ?_
                   refine K_ret ?_
                   refine N_done1 (.inr rfl) rfl rfl ?_
                   refine ⟨_, rfl, congrArg Value.bool ?_, hp.nil⟩
                   first
                     | rfl
                     | (refine Bool.eq_iff_iff.2 ?_; simp only [Bool.not_eq_true', decide_eq_true_eq, decide_eq_false_iff_not]; omega)
                     | (refine (decide_eq_true ?_).symm; first | omega | (rw [← hcl]; first | exact Or.inl (by assumption) | exact Or.inr (Or.inl (by assumption)) | (constructor <;> intro h <;> first | exact Or.inr (Or.inr h) | (rcases h with h | h | h <;> first | exact h | contradiction))))
                     | (refine (decide_eq_false ?_).symm; first | omega | (rw [← hcl]; first | exact Or.inl (by assumption) | exact Or.inr (Or.inl (by assumption)) | (constructor <;> intro h <;> first | exact Or.inr (Or.inr h) | (rcases h with h | h | h <;> first | exact h | contradiction))))
                     | (refine decide_eq_decide.2 ?_; first | omega | (rw [← hcl]; first | exact Or.inl (by assumption) | exact Or.inr (Or.inl (by assumption)) | (constructor <;> intro h <;> first | exact Or.inr (Or.inr h) | (rcases h with h | h | h <;> first | exact h | contradiction)))))))))))

theorem class3_spec (c : UInt8) : PureF Try.prog 12 [.int .u8 (c.toNat : Int), .int .i64 3] (.bool (decide (UnresP c.toNat))) := by
  have hu := c.toNat_lt
  have hcl := in_class3 c
  refine PureF.intro go12 Try.func12 rfl rfl fun w0 hp => ?_
  refine K_seq ?_
  refine K_region ?_
  refine W_assign rfl rfl ?_
  refine W_nil ?_
  refine N_then_k ?_
  refine K_seq ?_
  refine K_region ?_
  refine W_move rfl rfl ?_
  refine W_pcall hp rfl (letters_spec) rfl ?_
  clear hp; intro w hp
  refine W_pcall hp rfl ((in_spec c [65, 66, 67, 68, 69, 70, 71, 72, 73, 74, 75, 76, 77, 78, 79, 80, 81, 82, 83, 84, 85, 86, 87, 88, 89, 90, 97, 98, 99, 100, 101, 102, 103, 104, 105, 106, 107, 108, 109, 110, 111, 112, 113, 114, 115, 116, 117, 118, 119, 120, 121, 122] (by decide)).eq (in_letters c)) rfl ?_
  clear hp; intro w hp
  refine W_assign rfl rfl ?_
  refine W_nil ?_
  refine N_then_k ?_
  refine K_seq ?_
  refine K_region ?_
  refine W_move rfl rfl ?_
  refine W_pcall hp rfl ((in_spec c [48, 49, 50, 51, 52, 53, 54, 55, 56, 57] (by decide)).eq (in_digits c)) rfl ?_
  clear hp; intro w hp
  refine W_assign rfl rfl ?_
  refine W_nil ?_
  refine N_then_k ?_
  refine K_seq ?_
  refine K_seq ?_
  refine K_region ?_
  refine W_move rfl rfl ?_
  refine W_nil ?_
  refine N_then_k ?_
  refine K_block ?_
  refine K_seq ?_
  refine K_region ?_
  first
    | (refine W_eql_t rfl rfl ?_ rfl ?_; (focus (omega)))
    | (refine W_eql_f rfl rfl ?_ rfl ?_; (focus (omega)))
    | (refine W_eql rfl rfl rfl ?_)
  refine W_assign rfl rfl ?_
  refine W_nil ?_
  refine N_then_k ?_
  first
    | refine K_cond_d rfl (fun hc1 => ?_) (fun hc1 => ?_)
    | refine K_cond_n rfl (fun hc1 => ?_) (fun hc1 => ?_)
    | refine K_cond_nb rfl (fun hc1 => ?_) (fun hc1 => ?_)
    | refine K_cond_t rfl (fun hc1 => ?_) (fun hc1 => ?_)
  · try (exfalso; first | contradiction | omega)
    all_goals (
     refine K_seq ?_
     refine K_region ?_
     refine W_move rfl rfl ?_
     refine W_assign rfl rfl ?_
     refine W_nil ?_
     refine N_then_k ?_
     refine K_ret ?_
     refine N_block_ret ?_
     refine N_then_ret ?_
     refine N_done1 (.inr rfl) rfl rfl ?_
     refine ⟨_, rfl, congrArg Value.bool ?_, hp.nil⟩
     first
       | rfl
       | (refine Bool.eq_iff_iff.2 ?_; simp only [Bool.not_eq_true', decide_eq_true_eq, decide_eq_false_iff_not]; omega)
       | (refine (decide_eq_true ?_).symm; first | omega | (rw [← hcl]; first | exact Or.inl (by assumption) | exact Or.inr (Or.inl (by assumption)) | (constructor <;> intro h <;> first | exact Or.inr (Or.inr h) | (rcases h with h | h | h <;> first | exact h | contradiction))))
       | (refine (decide_eq_false ?_).symm; first | omega | (rw [← hcl]; first | exact Or.inl (by assumption) | exact Or.inr (Or.inl (by assumption)) | (constructor <;> intro h <;> first | exact Or.inr (Or.inr h) | (rcases h with h | h | h <;> first | exact h | contradiction))))
       | (refine decide_eq_decide.2 ?_; first | omega | (rw [← hcl]; first | exact Or.inl (by assumption) | exact Or.inr (Or.inl (by assumption)) | (constructor <;> intro h <;> first | exact Or.inr (Or.inr h) | (rcases h with h | h | h <;> first | exact h | contradiction)))))
  · try (exfalso; first | contradiction | omega)
    all_goals (
     refine K_seq ?_
     refine K_region ?_
     first
       | (refine W_eql_t rfl rfl ?_ rfl ?_; (focus (omega)))
       | (refine W_eql_f rfl rfl ?_ rfl ?_; (focus (omega)))
       | (refine W_eql rfl rfl rfl ?_)
     refine W_assign rfl rfl ?_
     refine W_nil ?_
     refine N_then_k ?_
     first
       | refine K_cond_d rfl (fun hc2 => ?_) (fun hc2 => ?_)
       | refine K_cond_n rfl (fun hc2 => ?_) (fun hc2 => ?_)
       | refine K_cond_nb rfl (fun hc2 => ?_) (fun hc2 => ?_)
       | refine K_cond_t rfl (fun hc2 => ?_) (fun hc2 => ?_)
     · try (exfalso; first | contradiction | omega)
       all_goals (
        refine K_seq ?_
        refine K_region ?_
        refine W_move rfl rfl ?_
        refine W_assign rfl rfl ?_
        refine W_nil ?_
        refine N_then_k ?_
        refine K_ret ?_
        refine N_block_ret ?_
        refine N_then_ret ?_
        refine N_done1 (.inr rfl) rfl rfl ?_
        refine ⟨_, rfl, congrArg Value.bool ?_, hp.nil⟩
        first
          | rfl
          | (refine Bool.eq_iff_iff.2 ?_; simp only [Bool.not_eq_true', decide_eq_true_eq, decide_eq_false_iff_not]; omega)
          | (refine (decide_eq_true ?_).symm; first | omega | (rw [← hcl]; first | exact Or.inl (by assumption) | exact Or.inr (Or.inl (by assumption)) | (constructor <;> intro h <;> first | exact Or.inr (Or.inr h) | (rcases h with h | h | h <;> first | exact h | contradiction))))
          | (refine (decide_eq_false ?_).symm; first | omega | (rw [← hcl]; first | exact Or.inl (by assumption) | exact Or.inr (Or.inl (by assumption)) | (constructor <;> intro h <;> first | exact Or.inr (Or.inr h) | (rcases h with h | h | h <;> first | exact h | contradiction))))
          | (refine decide_eq_decide.2 ?_; first | omega | (rw [← hcl]; first | exact Or.inl (by assumption) | exact Or.inr (Or.inl (by assumption)) | (constructor <;> intro h <;> first | exact Or.inr (Or.inr h) | (rcases h with h | h | h <;> first | exact h | contradiction)))))
     · try (exfalso; first | contradiction | omega)
       all_goals (
        refine K_seq ?_
        refine K_region ?_
        first
          | (refine W_eql_t rfl rfl ?_ rfl ?_; (focus (omega)))
          | (refine W_eql_f rfl rfl ?_ rfl ?_; (focus (omega)))
          | (refine W_eql rfl rfl rfl ?_)
        refine W_assign rfl rfl ?_
        refine W_nil ?_
        refine N_then_k ?_
        first
          | refine K_cond_d rfl (fun hc3 => ?_) (fun hc3 => ?_)
          | refine K_cond_n rfl (fun hc3 => ?_) (fun hc3 => ?_)
          | refine K_cond_nb rfl (fun hc3 => ?_) (fun hc3 => ?_)
          | refine K_cond_t rfl (fun hc3 => ?_) (fun hc3 => ?_)
        · try (exfalso; first | contradiction | omega)
          all_goals (
           refine K_seq ?_
           refine K_region ?_
           refine W_move rfl rfl ?_
           refine W_move rfl rfl ?_
           first
             | refine W_guard_lit_t rfl ?_
             | refine W_guard_lit_f rfl ?_
             | refine W_guard_lit_u rfl ?_
             | refine W_guard_split_d rfl rfl rfl (fun hg4 => ?_) (fun hg4 => ?_)
             | refine W_guard_split_n rfl rfl rfl (fun hg4 => ?_) (fun hg4 => ?_)
             | refine W_guard_split_nb rfl rfl rfl (fun hg4 => ?_) (fun hg4 => ?_)
             | refine W_guard_split rfl rfl rfl (fun hg4 => ?_) (fun hg4 => ?_)
           all_goals try (exfalso; first | contradiction | omega)
           all_goals (
            first
              | (refine W_guard_no rfl rfl rfl ?_)
              | (refine W_guard_un rfl rfl ?_)
              | (refine W_guard_yes rfl ?_
                 refine W_move rfl rfl ?_)
            first
              | (refine W_pick_t rfl rfl rfl ?_)
              | (refine W_pick_f rfl rfl rfl ?_)
              | (refine W_pick_b rfl rfl rfl rfl ?_)
            refine W_move rfl rfl ?_
            first
              | refine W_guard_lit_t rfl ?_
              | refine W_guard_lit_f rfl ?_
              | refine W_guard_lit_u rfl ?_
              | refine W_guard_split_d rfl rfl rfl (fun hg5 => ?_) (fun hg5 => ?_)
              | refine W_guard_split_n rfl rfl rfl (fun hg5 => ?_) (fun hg5 => ?_)
              | refine W_guard_split_nb rfl rfl rfl (fun hg5 => ?_) (fun hg5 => ?_)
              | refine W_guard_split rfl rfl rfl (fun hg5 => ?_) (fun hg5 => ?_)
            all_goals try (exfalso; first | contradiction | omega)
            all_goals (
             first
               | (iterate 2 refine W_guard_no rfl rfl rfl ?_)
               | (iterate 2 refine W_guard_un rfl rfl ?_)
               | (refine W_guard_yes rfl ?_
                  refine W_move rfl rfl ?_
                  refine W_guard_yes rfl ?_
                  refine W_pcall hp rfl (in_spec c [33, 35, 36, 37, 38, 39, 42, 43, 45, 46, 94, 95, 96, 124, 126] (by decide)) rfl ?_
                  clear hp; intro w hp)
             first
               | (refine W_pick_t rfl rfl rfl ?_)
               | (refine W_pick_f rfl rfl rfl ?_)
               | (refine W_pick_b rfl rfl rfl rfl ?_)
             refine W_assign rfl rfl ?_
             refine W_nil ?_
             refine N_then_k ?_
             refine K_ret ?_
             refine N_block_ret ?_
             refine N_then_ret ?_
             refine N_done1 (.inr rfl) rfl rfl ?_
             refine ⟨_, rfl, congrArg Value.bool ?_, hp.nil⟩
             first
               | rfl
               | (refine Bool.eq_iff_iff.2 ?_; simp only [Bool.not_eq_true', decide_eq_true_eq, decide_eq_false_iff_not]; omega)
               | (refine (decide_eq_true ?_).symm; first | omega | (rw [← hcl]; first | exact Or.inl (by assumption) | exact Or.inr (Or.inl (by assumption)) | (constructor <;> intro h <;> first | exact Or.inr (Or.inr h) | (rcases h with h | h | h <;> first | exact h | contradiction))))
               | (refine (decide_eq_false ?_).symm; first | omega | (rw [← hcl]; first | exact Or.inl (by assumption) | exact Or.inr (Or.inl (by assumption)) | (constructor <;> intro h <;> first | exact Or.inr (Or.inr h) | (rcases h with h | h | h <;> first | exact h | contradiction))))
               | (refine decide_eq_decide.2 ?_; first | omega | (rw [← hcl]; first | exact Or.inl (by assumption) | exact Or.inr (Or.inl (by assumption)) | (constructor <;> intro h <;> first | exact Or.inr (Or.inr h) | (rcases h with h | h | h <;> first | exact h | contradiction)))))))
        · try (exfalso; first | contradiction | omega)
          all_goals (
           refine K_seq ?_
           refine K_region ?_
           first
             | (refine W_eql_t rfl rfl ?_ rfl ?_; (focus (omega)))
             | (refine W_eql_f rfl rfl ?_ rfl ?_; (focus (omega)))
             | (refine W_eql rfl rfl rfl ?_)
           refine W_assign rfl rfl ?_
           refine W_nil ?_
           refine N_then_k ?_
           first
             | refine K_cond_d rfl (fun hc6 => ?_) (fun hc6 => ?_)
             | refine K_cond_n rfl (fun hc6 => ?_) (fun hc6 => ?_)
             | refine K_cond_nb rfl (fun hc6 => ?_) (fun hc6 => ?_)
             | refine K_cond_t rfl (fun hc6 => ?_) (fun hc6 => ?_)
           · try (exfalso; first | contradiction | omega)
             all_goals (
              refine K_seq ?_
              refine K_region ?_
              refine W_move rfl rfl ?_
              refine W_move rfl rfl ?_
              first
                | refine W_guard_lit_t rfl ?_
                | refine W_guard_lit_f rfl ?_
                | refine W_guard_lit_u rfl ?_
                | refine W_guard_split_d rfl rfl rfl (fun hg7 => ?_) (fun hg7 => ?_)
                | refine W_guard_split_n rfl rfl rfl (fun hg7 => ?_) (fun hg7 => ?_)
                | refine W_guard_split_nb rfl rfl rfl (fun hg7 => ?_) (fun hg7 => ?_)
                | refine W_guard_split rfl rfl rfl (fun hg7 => ?_) (fun hg7 => ?_)
              all_goals try (exfalso; first | contradiction | omega)
              all_goals (
               first
                 | (refine W_guard_no rfl rfl rfl ?_)
                 | (refine W_guard_un rfl rfl ?_)
                 | (refine W_guard_yes rfl ?_
                    refine W_move rfl rfl ?_)
               first
                 | (refine W_pick_t rfl rfl rfl ?_)
                 | (refine W_pick_f rfl rfl rfl ?_)
                 | (refine W_pick_b rfl rfl rfl rfl ?_)
               refine W_move rfl rfl ?_
               first
                 | refine W_guard_lit_t rfl ?_
                 | refine W_guard_lit_f rfl ?_
                 | refine W_guard_lit_u rfl ?_
                 | refine W_guard_split_d rfl rfl rfl (fun hg8 => ?_) (fun hg8 => ?_)
                 | refine W_guard_split_n rfl rfl rfl (fun hg8 => ?_) (fun hg8 => ?_)
                 | refine W_guard_split_nb rfl rfl rfl (fun hg8 => ?_) (fun hg8 => ?_)
                 | refine W_guard_split rfl rfl rfl (fun hg8 => ?_) (fun hg8 => ?_)
               all_goals try (exfalso; first | contradiction | omega)
               all_goals (
                first
                  | (iterate 2 refine W_guard_no rfl rfl rfl ?_)
                  | (iterate 2 refine W_guard_un rfl rfl ?_)
                  | (refine W_guard_yes rfl ?_
                     refine W_move rfl rfl ?_
                     refine W_guard_yes rfl ?_
                     refine W_pcall hp rfl (in_spec c [45, 46, 95, 126] (by decide)) rfl ?_
                     clear hp; intro w hp)
                first
                  | (refine W_pick_t rfl rfl rfl ?_)
                  | (refine W_pick_f rfl rfl rfl ?_)
                  | (refine W_pick_b rfl rfl rfl rfl ?_)
                refine W_assign rfl rfl ?_
                refine W_nil ?_
                refine N_then_k ?_
                refine K_ret ?_
                refine N_block_ret ?_
                refine N_then_ret ?_
                refine N_done1 (.inr rfl) rfl rfl ?_
                refine ⟨_, rfl, congrArg Value.bool ?_, hp.nil⟩
                first
                  | rfl
                  | (refine Bool.eq_iff_iff.2 ?_; simp only [Bool.not_eq_true', decide_eq_true_eq, decide_eq_false_iff_not]; omega)
                  | (refine (decide_eq_true ?_).symm; first | omega | (rw [← hcl]; first | exact Or.inl (by assumption) | exact Or.inr (Or.inl (by assumption)) | (constructor <;> intro h <;> first | exact Or.inr (Or.inr h) | (rcases h with h | h | h <;> first | exact h | contradiction))))
                  | (refine (decide_eq_false ?_).symm; first | omega | (rw [← hcl]; first | exact Or.inl (by assumption) | exact Or.inr (Or.inl (by assumption)) | (constructor <;> intro h <;> first | exact Or.inr (Or.inr h) | (rcases h with h | h | h <;> first | exact h | contradiction))))
                  | (refine decide_eq_decide.2 ?_; first | omega | (rw [← hcl]; first | exact Or.inl (by assumption) | exact Or.inr (Or.inl (by assumption)) | (constructor <;> intro h <;> first | exact Or.inr (Or.inr h) | (rcases h with h | h | h <;> first | exact h | contradiction)))))))
           · try (exfalso; first | contradiction | omega)
             all_goals (
              refine K_seq ?_
              refine K_region ?_
              first
                | (refine W_eql_t rfl rfl ?_ rfl ?_; (focus (omega)))
                | (refine W_eql_f rfl rfl ?_ rfl ?_; (focus (omega)))
                | (refine W_eql rfl rfl rfl ?_)
              refine W_assign rfl rfl ?_
              refine W_nil ?_
              refine N_then_k ?_
              first
                | refine K_cond_d rfl (fun hc9 => ?_) (fun hc9 => ?_)
                | refine K_cond_n rfl (fun hc9 => ?_) (fun hc9 => ?_)
                | refine K_cond_nb rfl (fun hc9 => ?_) (fun hc9 => ?_)
                | refine K_cond_t rfl (fun hc9 => ?_) (fun hc9 => ?_)
              · try (exfalso; first | contradiction | omega)
                all_goals (
                 refine K_seq ?_
                 refine K_region ?_
                 refine W_move rfl rfl ?_
                 refine W_move rfl rfl ?_
                 first
                   | refine W_guard_lit_t rfl ?_
                   | refine W_guard_lit_f rfl ?_
                   | refine W_guard_lit_u rfl ?_
                   | refine W_guard_split_d rfl rfl rfl (fun hg10 => ?_) (fun hg10 => ?_)
                   | refine W_guard_split_n rfl rfl rfl (fun hg10 => ?_) (fun hg10 => ?_)
                   | refine W_guard_split_nb rfl rfl rfl (fun hg10 => ?_) (fun hg10 => ?_)
                   | refine W_guard_split rfl rfl rfl (fun hg10 => ?_) (fun hg10 => ?_)
                 all_goals try (exfalso; first | contradiction | omega)
                 all_goals (
                  first
                    | (refine W_guard_no rfl rfl rfl ?_)
                    | (refine W_guard_un rfl rfl ?_)
                    | (refine W_guard_yes rfl ?_
                       refine W_move rfl rfl ?_)
                  first
                    | (refine W_pick_t rfl rfl rfl ?_)
                    | (refine W_pick_f rfl rfl rfl ?_)
                    | (refine W_pick_b rfl rfl rfl rfl ?_)
                  refine W_move rfl rfl ?_
                  first
                    | refine W_guard_lit_t rfl ?_
                    | refine W_guard_lit_f rfl ?_
                    | refine W_guard_lit_u rfl ?_
                    | refine W_guard_split_d rfl rfl rfl (fun hg11 => ?_) (fun hg11 => ?_)
                    | refine W_guard_split_n rfl rfl rfl (fun hg11 => ?_) (fun hg11 => ?_)
                    | refine W_guard_split_nb rfl rfl rfl (fun hg11 => ?_) (fun hg11 => ?_)
                    | refine W_guard_split rfl rfl rfl (fun hg11 => ?_) (fun hg11 => ?_)
                  all_goals try (exfalso; first | contradiction | omega)
                  all_goals (
                   first
                     | (iterate 2 refine W_guard_no rfl rfl rfl ?_)
                     | (iterate 2 refine W_guard_un rfl rfl ?_)
                     | (refine W_guard_yes rfl ?_
                        refine W_move rfl rfl ?_
                        refine W_guard_yes rfl ?_
                        refine W_pcall hp rfl (in_spec c [45, 46, 95, 126, 33, 36, 38, 39, 40, 41, 42, 43, 44, 59, 61, 58, 64] (by decide)) rfl ?_
                        clear hp; intro w hp)
                   first
                     | (refine W_pick_t rfl rfl rfl ?_)
                     | (refine W_pick_f rfl rfl rfl ?_)
                     | (refine W_pick_b rfl rfl rfl rfl ?_)
                   refine W_assign rfl rfl ?_
                   refine W_nil ?_
                   refine N_then_k ?_
                   refine K_ret ?_
                   refine N_block_ret ?_
                   refine N_then_ret ?_
                   refine N_done1 (.inr rfl) rfl rfl ?_
                   refine ⟨_, rfl, congrArg Value.bool ?_, hp.nil⟩
                   first
                     | rfl
                     | (refine Bool.eq_iff_iff.2 ?_; simp only [Bool.not_eq_true', decide_eq_true_eq, decide_eq_false_iff_not]; omega)
                     | (refine (decide_eq_true ?_).symm; first | omega | (rw [← hcl]; first | exact Or.inl (by assumption) | exact Or.inr (Or.inl (by assumption)) | (constructor <;> intro h <;> first | exact Or.inr (Or.inr h) | (rcases h with h | h | h <;> first | exact h | contradiction))))
                     | (refine (decide_eq_false ?_).symm; first | omega | (rw [← hcl]; first | exact Or.inl (by assumption) | exact Or.inr (Or.inl (by assumption)) | (constructor <;> intro h <;> first | exact Or.inr (Or.inr h) | (rcases h with h | h | h <;> first | exact h | contradiction))))
                     | (refine decide_eq_decide.2 ?_; first | omega | (rw [← hcl]; first | exact Or.inl (by assumption) | exact Or.inr (Or.inl (by assumption)) | (constructor <;> intro h <;> first | exact Or.inr (Or.inr h) | (rcases h with h | h | h <;> first | exact h | contradiction)))))))
              · try (exfalso; first | contradiction | omega)
                all_goals (
                 refine K_skip ?_
                 refine N_block_normal ?_
                 refine N_then_k ?_
                 refine K_seq ?_
                 refine K_region ?_
                 refine W_move rfl rfl ?_
                 first
                   | (refine W_eql_t rfl rfl ?_ rfl ?_; (focus (omega)))
                   | (refine W_eql_f rfl rfl ?_ rfl ?_; (focus (omega)))
                   | (refine W_eql rfl rfl rfl ?_)
                 refine W_move rfl rfl ?_
                 first
                   | refine W_guard_lit_t rfl ?_
                   | refine W_guard_lit_f rfl ?_
                   | refine W_guard_lit_u rfl ?_
                   | refine W_guard_split_d rfl rfl rfl (fun hg12 => ?_) (fun hg12 => ?_)
                   | refine W_guard_split_n rfl rfl rfl (fun hg12 => ?_) (fun hg12 => ?_)
                   | refine W_guard_split_nb rfl rfl rfl (fun hg12 => ?_) (fun hg12 => ?_)
                   | refine W_guard_split rfl rfl rfl (fun hg12 => ?_) (fun hg12 => ?_)
                 all_goals try (exfalso; first | contradiction | omega)
                 all_goals (
                  first
                    | (iterate 3 refine W_guard_no rfl rfl rfl ?_)
                    | (iterate 3 refine W_guard_un rfl rfl ?_)
                    | (refine W_guard_yes rfl ?_
                       refine W_move rfl rfl ?_
                       refine W_guard_yes rfl ?_
                       first
                         | (refine W_geq_t rfl rfl ?_ rfl ?_; (focus (omega)))
                         | (refine W_geq_f rfl rfl ?_ rfl ?_; (focus (omega)))
                         | (refine W_geq rfl rfl rfl ?_)
                       refine W_guard_yes rfl ?_
                       refine W_move rfl rfl ?_)
                  first
                    | refine W_guard_lit_t rfl ?_
                    | refine W_guard_lit_f rfl ?_
                    | refine W_guard_lit_u rfl ?_
                    | refine W_guard_split_d rfl rfl rfl (fun hg13 => ?_) (fun hg13 => ?_)
                    | refine W_guard_split_n rfl rfl rfl (fun hg13 => ?_) (fun hg13 => ?_)
                    | refine W_guard_split_nb rfl rfl rfl (fun hg13 => ?_) (fun hg13 => ?_)
                    | refine W_guard_split rfl rfl rfl (fun hg13 => ?_) (fun hg13 => ?_)
                  all_goals try (exfalso; first | contradiction | omega)
                  all_goals (
                   first
                     | (iterate 2 refine W_guard_no rfl rfl rfl ?_)
                     | (iterate 2 refine W_guard_un rfl rfl ?_)
                     | (refine W_guard_yes rfl ?_
                        refine W_move rfl rfl ?_
                        refine W_guard_yes rfl ?_
                        first
                          | (refine W_neq_t rfl rfl ?_ rfl ?_; (focus (omega)))
                          | (refine W_neq_f rfl rfl ?_ rfl ?_; (focus (omega)))
                          | (refine W_neq rfl rfl rfl ?_))
                   first
                     | (refine W_guard_no rfl rfl rfl ?_)
                     | (refine W_guard_un rfl rfl ?_)
                     | (refine W_guard_yes rfl ?_
                        first
                          | (refine W_pick_t rfl rfl rfl ?_)
                          | (refine W_pick_f rfl rfl rfl ?_)
                          | (refine W_pick_b rfl rfl rfl rfl ?_))
                   first
                     | (refine W_pick_t rfl rfl rfl ?_)
                     | (refine W_pick_f rfl rfl rfl ?_)
                     | (refine W_pick_b rfl rfl rfl rfl ?_)
                   refine W_assign rfl rfl ?_
                   refine W_nil ?_
                   refine N_then_k ?_
                   refine K_ret ?_
                   refine N_done1 (.inr rfl) rfl rfl ?_
                   refine ⟨_, rfl, congrArg Value.bool ?_, hp.nil⟩
                   first
                     | rfl
                     | (refine Bool.eq_iff_iff.2 ?_; simp only [Bool.not_eq_true', decide_eq_true_eq, decide_eq_false_iff_not]; omega)
                     | (refine (decide_eq_true ?_).symm; first | omega | (rw [← hcl]; first | exact Or.inl (by assumption) | exact Or.inr (Or.inl (by assumption)) | (constructor <;> intro h <;> first | exact Or.inr (Or.inr h) | (rcases h with h | h | h <;> first | exact h | contradiction))))
                     | (refine (decide_eq_false ?_).symm; first | omega | (rw [← hcl]; first | exact Or.inl (by assumption) | exact Or.inr (Or.inl (by assumption)) | (constructor <;> intro h <;> first | exact Or.inr (Or.inr h) | (rcases h with h | h | h <;> first | exact h | contradiction))))
                     | (refine decide_eq_decide.2 ?_; first | omega | (rw [← hcl]; first | exact Or.inl (by assumption) | exact Or.inr (Or.inl (by assumption)) | (constructor <;> intro h <;> first | exact Or.inr (Or.inr h) | (rcases h with h | h | h <;> first | exact h | contradiction)))))))))))

theorem class4_spec (c : UInt8) : PureF Try.prog 12 [.int .u8 (c.toNat : Int), .int .i64 4] (.bool (decide (PathP c.toNat))) := by
  have hu := c.toNat_lt
  have hcl := in_class4 c
  refine PureF.intro go12 Try.func12 rfl rfl fun w0 hp => ?_
  refine K_seq ?_
  refine K_region ?_
  refine W_assign rfl rfl ?_
  refine W_nil ?_
  refine N_then_k ?_
  refine K_seq ?_
  refine K_region ?_
  refine W_move rfl rfl ?_
  refine W_pcall hp rfl (letters_spec) rfl ?_
  clear hp; intro w hp
  refine W_pcall hp rfl ((in_spec c [65, 66, 67, 68, 69, 70, 71, 72, 73, 74, 75, 76, 77, 78, 79, 80, 81, 82, 83, 84, 85, 86, 87, 88, 89, 90, 97, 98, 99, 100, 101, 102, 103, 104, 105, 106, 107, 108, 109, 110, 111, 112, 113, 114, 115, 116, 117, 118, 119, 120, 121, 122] (by decide)).eq (in_letters c)) rfl ?_
  clear hp; intro w hp
  refine W_assign rfl rfl ?_
  refine W_nil ?_
  refine N_then_k ?_
  refine K_seq ?_
  refine K_region ?_
  refine W_move rfl rfl ?_
  refine W_pcall hp rfl ((in_spec c [48, 49, 50, 51, 52, 53, 54, 55, 56, 57] (by decide)).eq (in_digits c)) rfl ?_
  clear hp; intro w hp
  refine W_assign rfl rfl ?_
  refine W_nil ?_
  refine N_then_k ?_
  refine K_seq ?_
  refine K_seq ?_
  refine K_region ?_
  refine W_move rfl rfl ?_
  refine W_nil ?_
  refine N_then_k ?_
  refine K_block ?_
  refine K_seq ?_
  refine K_region ?_
  first
    | (refine W_eql_t rfl rfl ?_ rfl ?_; (focus (omega)))
    | (refine W_eql_f rfl rfl ?_ rfl ?_; (focus (omega)))
    | (refine W_eql rfl rfl rfl ?_)
  refine W_assign rfl rfl ?_
  refine W_nil ?_
  refine N_then_k ?_
  first
    | refine K_cond_d rfl (fun hc1 => ?_) (fun hc1 => ?_)
    | refine K_cond_n rfl (fun hc1 => ?_) (fun hc1 => ?_)
    | refine K_cond_nb rfl (fun hc1 => ?_) (fun hc1 => ?_)
    | refine K_cond_t rfl (fun hc1 => ?_) (fun hc1 => ?_)
  · try (exfalso; first | contradiction | omega)
    all_goals (
     refine K_seq ?_
     refine K_region ?_
     refine W_move rfl rfl ?_
     refine W_assign rfl rfl ?_
     refine W_nil ?_
     refine N_then_k ?_
     refine K_ret ?_
     refine N_block_ret ?_
     refine N_then_ret ?_
     refine N_done1 (.inr rfl) rfl rfl ?_
     refine ⟨_, rfl, congrArg Value.bool ?_, hp.nil⟩
     first
       | rfl
       | (refine Bool.eq_iff_iff.2 ?_; simp only [Bool.not_eq_true', decide_eq_true_eq, decide_eq_false_iff_not]; omega)
       | (refine (decide_eq_true ?_).symm; first | omega | (rw [← hcl]; first | exact Or.inl (by assumption) | exact Or.inr (Or.inl (by assumption)) | (constructor <;> intro h <;> first | exact Or.inr (Or.inr h) | (rcases h with h | h | h <;> first | exact h | contradiction))))
       | (refine (decide_eq_false ?_).symm; first | omega | (rw [← hcl]; first | exact Or.inl (by assumption) | exact Or.inr (Or.inl (by assumption)) | (constructor <;> intro h <;> first | exact Or.inr (Or.inr h) | (rcases h with h | h | h <;> first | exact h | contradiction))))
       | (refine decide_eq_decide.2 ?_; first | omega | (rw [← hcl]; first | exact Or.inl (by assumption) | exact Or.inr (Or.inl (by assumption)) | (constructor <;> intro h <;> first | exact Or.inr (Or.inr h) | (rcases h with h | h | h <;> first | exact h | contradiction)))))
  · try (exfalso; first | contradiction | omega)
    all_goals (
     refine K_seq ?_
     refine K_region ?_
     first
       | (refine W_eql_t rfl rfl ?_ rfl ?_; (focus (omega)))
       | (refine W_eql_f rfl rfl ?_ rfl ?_; (focus (omega)))
       | (refine W_eql rfl rfl rfl ?_)
     refine W_assign rfl rfl ?_
     refine W_nil ?_
     refine N_then_k ?_
     first
       | refine K_cond_d rfl (fun hc2 => ?_) (fun hc2 => ?_)
       | refine K_cond_n rfl (fun hc2 => ?_) (fun hc2 => ?_)
       | refine K_cond_nb rfl (fun hc2 => ?_) (fun hc2 => ?_)
       | refine K_cond_t rfl (fun hc2 => ?_) (fun hc2 => ?_)
     · try (exfalso; first | contradiction | omega)
       all_goals (
        refine K_seq ?_
        refine K_region ?_
        refine W_move rfl rfl ?_
        refine W_assign rfl rfl ?_
        refine W_nil ?_
        refine N_then_k ?_
        refine K_ret ?_
        refine N_block_ret ?_
        refine N_then_ret ?_
        refine N_done1 (.inr rfl) rfl rfl ?_
        refine ⟨_, rfl, congrArg Value.bool ?_, hp.nil⟩
        first
          | rfl
          | (refine Bool.eq_iff_iff.2 ?_; simp only [Bool.not_eq_true', decide_eq_true_eq, decide_eq_false_iff_not]; omega)
          | (refine (decide_eq_true ?_).symm; first | omega | (rw [← hcl]; first | exact Or.inl (by assumption) | exact Or.inr (Or.inl (by assumption)) | (constructor <;> intro h <;> first | exact Or.inr (Or.inr h) | (rcases h with h | h | h <;> first | exact h | contradiction))))
          | (refine (decide_eq_false ?_).symm; first | omega | (rw [← hcl]; first | exact Or.inl (by assumption) | exact Or.inr (Or.inl (by assumption)) | (constructor <;> intro h <;> first | exact Or.inr (Or.inr h) | (rcases h with h | h | h <;> first | exact h | contradiction))))
          | (refine decide_eq_decide.2 ?_; first | omega | (rw [← hcl]; first | exact Or.inl (by assumption) | exact Or.inr (Or.inl (by assumption)) | (constructor <;> intro h <;> first | exact Or.inr (Or.inr h) | (rcases h with h | h | h <;> first | exact h | contradiction)))))
     · try (exfalso; first | contradiction | omega)
       all_goals (
        refine K_seq ?_
        refine K_region ?_
        first
          | (refine W_eql_t rfl rfl ?_ rfl ?_; (focus (omega)))
          | (refine W_eql_f rfl rfl ?_ rfl ?_; (focus (omega)))
          | (refine W_eql rfl rfl rfl ?_)
        refine W_assign rfl rfl ?_
        refine W_nil ?_
        refine N_then_k ?_
        first
          | refine K_cond_d rfl (fun hc3 => ?_) (fun hc3 => ?_)
          | refine K_cond_n rfl (fun hc3 => ?_) (fun hc3 => ?_)
          | refine K_cond_nb rfl (fun hc3 => ?_) (fun hc3 => ?_)
          | refine K_cond_t rfl (fun hc3 => ?_) (fun hc3 => ?_)
        · try (exfalso; first | contradiction | omega)
          all_goals (
           refine K_seq ?_
           refine K_region ?_
           refine W_move rfl rfl ?_
           refine W_move rfl rfl ?_
           first
             | refine W_guard_lit_t rfl ?_
             | refine W_guard_lit_f rfl ?_
             | refine W_guard_lit_u rfl ?_
             | refine W_guard_split_d rfl rfl rfl (fun hg4 => ?_) (fun hg4 => ?_)
             | refine W_guard_split_n rfl rfl rfl (fun hg4 => ?_) (fun hg4 => ?_)
             | refine W_guard_split_nb rfl rfl rfl (fun hg4 => ?_) (fun hg4 => ?_)
             | refine W_guard_split rfl rfl rfl (fun hg4 => ?_) (fun hg4 => ?_)
           all_goals try (exfalso; first | contradiction | omega)
           all_goals (
            first
              | (refine W_guard_no rfl rfl rfl ?_)
              | (refine W_guard_un rfl rfl ?_)
              | (refine W_guard_yes rfl ?_
                 refine W_move rfl rfl ?_)
            first
              | (refine W_pick_t rfl rfl rfl ?_)
              | (refine W_pick_f rfl rfl rfl ?_)
              | (refine W_pick_b rfl rfl rfl rfl ?_)
            refine W_move rfl rfl ?_
            first
              | refine W_guard_lit_t rfl ?_
              | refine W_guard_lit_f rfl ?_
              | refine W_guard_lit_u rfl ?_
              | refine W_guard_split_d rfl rfl rfl (fun hg5 => ?_) (fun hg5 => ?_)
              | refine W_guard_split_n rfl rfl rfl (fun hg5 => ?_) (fun hg5 => ?_)
              | refine W_guard_split_nb rfl rfl rfl (fun hg5 => ?_) (fun hg5 => ?_)
              | refine W_guard_split rfl rfl rfl (fun hg5 => ?_) (fun hg5 => ?_)
            all_goals try (exfalso; first | contradiction | omega)
            all_goals (
             first
               | (iterate 2 refine W_guard_no rfl rfl rfl ?_)
               | (iterate 2 refine W_guard_un rfl rfl ?_)
               | (refine W_guard_yes rfl ?_
                  refine W_move rfl rfl ?_
                  refine W_guard_yes rfl ?_
                  refine W_pcall hp rfl (in_spec c [33, 35, 36, 37, 38, 39, 42, 43, 45, 46, 94, 95, 96, 124, 126] (by decide)) rfl ?_
                  clear hp; intro w hp)
             first
               | (refine W_pick_t rfl rfl rfl ?_)
               | (refine W_pick_f rfl rfl rfl ?_)
               | (refine W_pick_b rfl rfl rfl rfl ?_)
             refine W_assign rfl rfl ?_
             refine W_nil ?_
             refine N_then_k ?_
             refine K_ret ?_
             refine N_block_ret ?_
             refine N_then_ret ?_
             refine N_done1 (.inr rfl) rfl rfl ?_
             refine ⟨_, rfl, congrArg Value.bool ?_, hp.nil⟩
             first
               | rfl
               | (refine Bool.eq_iff_iff.2 ?_; simp only [Bool.not_eq_true', decide_eq_true_eq, decide_eq_false_iff_not]; omega)
               | (refine (decide_eq_true ?_).symm; first | omega | (rw [← hcl]; first | exact Or.inl (by assumption) | exact Or.inr (Or.inl (by assumption)) | (constructor <;> intro h <;> first | exact Or.inr (Or.inr h) | (rcases h with h | h | h <;> first | exact h | contradiction))))
               | (refine (decide_eq_false ?_).symm; first | omega | (rw [← hcl]; first | exact Or.inl (by assumption) | exact Or.inr (Or.inl (by assumption)) | (constructor <;> intro h <;> first | exact Or.inr (Or.inr h) | (rcases h with h | h | h <;> first | exact h | contradiction))))
               | (refine decide_eq_decide.2 ?_; first | omega | (rw [← hcl]; first | exact Or.inl (by assumption) | exact Or.inr (Or.inl (by assumption)) | (constructor <;> intro h <;> first | exact Or.inr (Or.inr h) | (rcases h with h | h | h <;> first | exact h | contradiction)))))))
        · try (exfalso; first | contradiction | omega)
          all_goals (
           refine K_seq ?_
           refine K_region ?_
           first
             | (refine W_eql_t rfl rfl ?_ rfl ?_; (focus (omega)))
             | (refine W_eql_f rfl rfl ?_ rfl ?_; (focus (omega)))
             | (refine W_eql rfl rfl rfl ?_)
           refine W_assign rfl rfl ?_
           refine W_nil ?_
           refine N_then_k ?_
           first
             | refine K_cond_d rfl (fun hc6 => ?_) (fun hc6 => ?_)
             | refine K_cond_n rfl (fun hc6 => ?_) (fun hc6 => ?_)
             | refine K_cond_nb rfl (fun hc6 => ?_) (fun hc6 => ?_)
             | refine K_cond_t rfl (fun hc6 => ?_) (fun hc6 => ?_)
           · try (exfalso; first | contradiction | omega)
             all_goals (
              refine K_seq ?_
              refine K_region ?_
              refine W_move rfl rfl ?_
              refine W_move rfl rfl ?_
              first
                | refine W_guard_lit_t rfl ?_
                | refine W_guard_lit_f rfl ?_
                | refine W_guard_lit_u rfl ?_
                | refine W_guard_split_d rfl rfl rfl (fun hg7 => ?_) (fun hg7 => ?_)
                | refine W_guard_split_n rfl rfl rfl (fun hg7 => ?_) (fun hg7 => ?_)
                | refine W_guard_split_nb rfl rfl rfl (fun hg7 => ?_) (fun hg7 => ?_)
                | refine W_guard_split rfl rfl rfl (fun hg7 => ?_) (fun hg7 => ?_)
              all_goals try (exfalso; first | contradiction | omega)
              all_goals (
               first
                 | (refine W_guard_no rfl rfl rfl ?_)
                 | (refine W_guard_un rfl rfl ?_)
                 | (refine W_guard_yes rfl ?_
                    refine W_move rfl rfl ?_)
               first
                 | (refine W_pick_t rfl rfl rfl ?_)
                 | (refine W_pick_f rfl rfl rfl ?_)
                 | (refine W_pick_b rfl rfl rfl rfl ?_)
               refine W_move rfl rfl ?_
               first
                 | refine W_guard_lit_t rfl ?_
                 | refine W_guard_lit_f rfl ?_
                 | refine W_guard_lit_u rfl ?_
                 | refine W_guard_split_d rfl rfl rfl (fun hg8 => ?_) (fun hg8 => ?_)
                 | refine W_guard_split_n rfl rfl rfl (fun hg8 => ?_) (fun hg8 => ?_)
                 | refine W_guard_split_nb rfl rfl rfl (fun hg8 => ?_) (fun hg8 => ?_)
                 | refine W_guard_split rfl rfl rfl (fun hg8 => ?_) (fun hg8 => ?_)
               all_goals try (exfalso; first | contradiction | omega)
               all_goals (
                first
                  | (iterate 2 refine W_guard_no rfl rfl rfl ?_)
                  | (iterate 2 refine W_guard_un rfl rfl ?_)
                  | (refine W_guard_yes rfl ?_
                     refine W_move rfl rfl ?_
                     refine W_guard_yes rfl ?_
                     refine W_pcall hp rfl (in_spec c [45, 46, 95, 126] (by decide)) rfl ?_
                     clear hp; intro w hp)
                first
                  | (refine W_pick_t rfl rfl rfl ?_)
                  | (refine W_pick_f rfl rfl rfl ?_)
                  | (refine W_pick_b rfl rfl rfl rfl ?_)
                refine W_assign rfl rfl ?_
                refine W_nil ?_
                refine N_then_k ?_
                refine K_ret ?_
                refine N_block_ret ?_
                refine N_then_ret ?_
                refine N_done1 (.inr rfl) rfl rfl ?_
                refine ⟨_, rfl, congrArg Value.bool ?_, hp.nil⟩
                first
                  | rfl
                  | (refine Bool.eq_iff_iff.2 ?_; simp only [Bool.not_eq_true', decide_eq_true_eq, decide_eq_false_iff_not]; omega)
                  | (refine (decide_eq_true ?_).symm; first | omega | (rw [← hcl]; first | exact Or.inl (by assumption) | exact Or.inr (Or.inl (by assumption)) | (constructor <;> intro h <;> first | exact Or.inr (Or.inr h) | (rcases h with h | h | h <;> first | exact h | contradiction))))
                  | (refine (decide_eq_false ?_).symm; first | omega | (rw [← hcl]; first | exact Or.inl (by assumption) | exact Or.inr (Or.inl (by assumption)) | (constructor <;> intro h <;> first | exact Or.inr (Or.inr h) | (rcases h with h | h | h <;> first | exact h | contradiction))))
                  | (refine decide_eq_decide.2 ?_; first | omega | (rw [← hcl]; first | exact Or.inl (by assumption) | exact Or.inr (Or.inl (by assumption)) | (constructor <;> intro h <;> first | exact Or.inr (Or.inr h) | (rcases h with h | h | h <;> first | exact h | contradiction)))))))
           · try (exfalso; first | contradiction | omega)
             all_goals (
              refine K_seq ?_
              refine K_region ?_
              first
                | (refine W_eql_t rfl rfl ?_ rfl ?_; (focus (omega)))
                | (refine W_eql_f rfl rfl ?_ rfl ?_; (focus (omega)))
                | (refine W_eql rfl rfl rfl ?_)
              refine W_assign rfl rfl ?_
              refine W_nil ?_
              refine N_then_k ?_
              first
                | refine K_cond_d rfl (fun hc9 => ?_) (fun hc9 => ?_)
                | refine K_cond_n rfl (fun hc9 => ?_) (fun hc9 => ?_)
                | refine K_cond_nb rfl (fun hc9 => ?_) (fun hc9 => ?_)
                | refine K_cond_t rfl (fun hc9 => ?_) (fun hc9 => ?_)
              · try (exfalso; first | contradiction | omega)
                all_goals (
                 refine K_seq ?_
                 refine K_region ?_
                 refine W_move rfl rfl ?_
                 refine W_move rfl rfl ?_
                 first
                   | refine W_guard_lit_t rfl ?_
                   | refine W_guard_lit_f rfl ?_
                   | refine W_guard_lit_u rfl ?_
                   | refine W_guard_split_d rfl rfl rfl (fun hg10 => ?_) (fun hg10 => ?_)
                   | refine W_guard_split_n rfl rfl rfl (fun hg10 => ?_) (fun hg10 => ?_)
                   | refine W_guard_split_nb rfl rfl rfl (fun hg10 => ?_) (fun hg10 => ?_)
                   | refine W_guard_split rfl rfl rfl (fun hg10 => ?_) (fun hg10 => ?_)
                 all_goals try (exfalso; first | contradiction | omega)
                 all_goals (
                  first
                    | (refine W_guard_no rfl rfl rfl ?_)
                    | (refine W_guard_un rfl rfl ?_)
                    | (refine W_guard_yes rfl ?_
                       refine W_move rfl rfl ?_)
                  first
                    | (refine W_pick_t rfl rfl rfl ?_)
                    | (refine W_pick_f rfl rfl rfl ?_)
                    | (refine W_pick_b rfl rfl rfl rfl ?_)
                  refine W_move rfl rfl ?_
                  first
                    | refine W_guard_lit_t rfl ?_
                    | refine W_guard_lit_f rfl ?_
                    | refine W_guard_lit_u rfl ?_
                    | refine W_guard_split_d rfl rfl rfl (fun hg11 => ?_) (fun hg11 => ?_)
                    | refine W_guard_split_n rfl rfl rfl (fun hg11 => ?_) (fun hg11 => ?_)
                    | refine W_guard_split_nb rfl rfl rfl (fun hg11 => ?_) (fun hg11 => ?_)
                    | refine W_guard_split rfl rfl rfl (fun hg11 => ?_) (fun hg11 => ?_)
                  all_goals try (exfalso; first | contradiction | omega)
                  all_goals (
                   first
                     | (iterate 2 refine W_guard_no rfl rfl rfl ?_)
                     | (iterate 2 refine W_guard_un rfl rfl ?_)
                     | (refine W_guard_yes rfl ?_
                        refine W_move rfl rfl ?_
                        refine W_guard_yes rfl ?_
                        refine W_pcall hp rfl (in_spec c [45, 46, 95, 126, 33, 36, 38, 39, 40, 41, 42, 43, 44, 59, 61, 58, 64] (by decide)) rfl ?_
                        clear hp; intro w hp)
                   first
                     | (refine W_pick_t rfl rfl rfl ?_)
                     | (refine W_pick_f rfl rfl rfl ?_)
                     | (refine W_pick_b rfl rfl rfl rfl ?_)
                   refine W_assign rfl rfl ?_
                   refine W_nil ?_
                   refine N_then_k ?_
                   refine K_ret ?_
                   refine N_block_ret ?_
                   refine N_then_ret ?_
                   refine N_done1 (.inr rfl) rfl rfl ?_
                   refine ⟨_, rfl, congrArg Value.bool ?_, hp.nil⟩
                   first
                     | rfl
                     | (refine Bool.eq_iff_iff.2 ?_; simp only [Bool.not_eq_true', decide_eq_true_eq, decide_eq_false_iff_not]; omega)
                     | (refine (decide_eq_true ?_).symm; first | omega | (rw [← hcl]; first | exact Or.inl (by assumption) | exact Or.inr (Or.inl (by assumption)) | (constructor <;> intro h <;> first | exact Or.inr (Or.inr h) | (rcases h with h | h | h <;> first | exact h | contradiction))))
                     | (refine (decide_eq_false ?_).symm; first | omega | (rw [← hcl]; first | exact Or.inl (by assumption) | exact Or.inr (Or.inl (by assumption)) | (constructor <;> intro h <;> first | exact Or.inr (Or.inr h) | (rcases h with h | h | h <;> first | exact h | contradiction))))
                     | (refine decide_eq_decide.2 ?_; first | omega | (rw [← hcl]; first | exact Or.inl (by assumption) | exact Or.inr (Or.inl (by assumption)) | (constructor <;> intro h <;> first | exact Or.inr (Or.inr h) | (rcases h with h | h | h <;> first | exact h | contradiction)))))))
              · try (exfalso; first | contradiction | omega)
                all_goals (
                 refine K_skip ?_
                 refine N_block_normal ?_
                 refine N_then_k ?_
                 refine K_seq ?_
                 refine K_region ?_
                 refine W_move rfl rfl ?_
                 first
                   | (refine W_eql_t rfl rfl ?_ rfl ?_; (focus (omega)))
                   | (refine W_eql_f rfl rfl ?_ rfl ?_; (focus (omega)))
                   | (refine W_eql rfl rfl rfl ?_)
                 refine W_move rfl rfl ?_
                 first
                   | refine W_guard_lit_t rfl ?_
                   | refine W_guard_lit_f rfl ?_
                   | refine W_guard_lit_u rfl ?_
                   | refine W_guard_split_d rfl rfl rfl (fun hg12 => ?_) (fun hg12 => ?_)
                   | refine W_guard_split_n rfl rfl rfl (fun hg12 => ?_) (fun hg12 => ?_)
                   | refine W_guard_split_nb rfl rfl rfl (fun hg12 => ?_) (fun hg12 => ?_)
                   | refine W_guard_split rfl rfl rfl (fun hg12 => ?_) (fun hg12 => ?_)
                 all_goals try (exfalso; first | contradiction | omega)
                 all_goals (
                  first
                    | (iterate 3 refine W_guard_no rfl rfl rfl ?_)
                    | (iterate 3 refine W_guard_un rfl rfl ?_)
                    | (refine W_guard_yes rfl ?_
                       refine W_move rfl rfl ?_
                       refine W_guard_yes rfl ?_
                       first
                         | (refine W_geq_t rfl rfl ?_ rfl ?_; (focus (omega)))
                         | (refine W_geq_f rfl rfl ?_ rfl ?_; (focus (omega)))
                         | (refine W_geq rfl rfl rfl ?_)
                       refine W_guard_yes rfl ?_
                       refine W_move rfl rfl ?_)
                  first
                    | refine W_guard_lit_t rfl ?_
                    | refine W_guard_lit_f rfl ?_
                    | refine W_guard_lit_u rfl ?_
                    | refine W_guard_split_d rfl rfl rfl (fun hg13 => ?_) (fun hg13 => ?_)
                    | refine W_guard_split_n rfl rfl rfl (fun hg13 => ?_) (fun hg13 => ?_)
                    | refine W_guard_split_nb rfl rfl rfl (fun hg13 => ?_) (fun hg13 => ?_)
                    | refine W_guard_split rfl rfl rfl (fun hg13 => ?_) (fun hg13 => ?_)
                  all_goals try (exfalso; first | contradiction | omega)
                  all_goals (
                   first
                     | (iterate 2 refine W_guard_no rfl rfl rfl ?_)
                     | (iterate 2 refine W_guard_un rfl rfl ?_)
                     | (refine W_guard_yes rfl ?_
                        refine W_move rfl rfl ?_
                        refine W_guard_yes rfl ?_
                        first
                          | (refine W_neq_t rfl rfl ?_ rfl ?_; (focus (omega)))
                          | (refine W_neq_f rfl rfl ?_ rfl ?_; (focus (omega)))
                          | (refine W_neq rfl rfl rfl ?_))
                   first
                     | (refine W_guard_no rfl rfl rfl ?_)
                     | (refine W_guard_un rfl rfl ?_)
                     | (refine W_guard_yes rfl ?_
                        first
                          | (refine W_pick_t rfl rfl rfl ?_)
                          | (refine W_pick_f rfl rfl rfl ?_)
                          | (refine W_pick_b rfl rfl rfl rfl ?_))
                   first
                     | (refine W_pick_t rfl rfl rfl ?_)
                     | (refine W_pick_f rfl rfl rfl ?_)
                     | (refine W_pick_b rfl rfl rfl rfl ?_)
                   refine W_assign rfl rfl ?_
                   refine W_nil ?_
                   refine N_then_k ?_
                   refine K_ret ?_
                   refine N_done1 (.inr rfl) rfl rfl ?_
                   refine ⟨_, rfl, congrArg Value.bool ?_, hp.nil⟩
                   first
                     | rfl
                     | (refine Bool.eq_iff_iff.2 ?_; simp only [Bool.not_eq_true', decide_eq_true_eq, decide_eq_false_iff_not]; omega)
                     | (refine (decide_eq_true ?_).symm; first | omega | (rw [← hcl]; first | exact Or.inl (by assumption) | exact Or.inr (Or.inl (by assumption)) | (constructor <;> intro h <;> first | exact Or.inr (Or.inr h) | (rcases h with h | h | h <;> first | exact h | contradiction))))
                     | (refine (decide_eq_false ?_).symm; first | omega | (rw [← hcl]; first | exact Or.inl (by assumption) | exact Or.inr (Or.inl (by assumption)) | (constructor <;> intro h <;> first | exact Or.inr (Or.inr h) | (rcases h with h | h | h <;> first | exact h | contradiction))))
                     | (refine decide_eq_decide.2 ?_; first | omega | (rw [← hcl]; first | exact Or.inl (by assumption) | exact Or.inr (Or.inl (by assumption)) | (constructor <;> intro h <;> first | exact Or.inr (Or.inr h) | (rcases h with h | h | h <;> first | exact h | contradiction)))))))))))

theorem class5_spec (c : UInt8) : PureF Try.prog 12 [.int .u8 (c.toNat : Int), .int .i64 5] (.bool (decide (FieldP c.toNat))) := by
  have hu := c.toNat_lt
  refine PureF.intro go12 Try.func12 rfl rfl fun w0 hp => ?_
  refine K_seq ?_
  refine K_region ?_
  refine W_assign rfl rfl ?_
  refine W_nil ?_
  refine N_then_k ?_
  refine K_seq ?_
  refine K_region ?_
  refine W_move rfl rfl ?_
  refine W_pcall hp rfl (letters_spec) rfl ?_
  clear hp; intro w hp
  refine W_pcall hp rfl ((in_spec c [65, 66, 67, 68, 69, 70, 71, 72, 73, 74, 75, 76, 77, 78, 79, 80, 81, 82, 83, 84, 85, 86, 87, 88, 89, 90, 97, 98, 99, 100, 101, 102, 103, 104, 105, 106, 107, 108, 109, 110, 111, 112, 113, 114, 115, 116, 117, 118, 119, 120, 121, 122] (by decide)).eq (in_letters c)) rfl ?_
  clear hp; intro w hp
  refine W_assign rfl rfl ?_
  refine W_nil ?_
  refine N_then_k ?_
  refine K_seq ?_
  refine K_region ?_
  refine W_move rfl rfl ?_
  refine W_pcall hp rfl ((in_spec c [48, 49, 50, 51, 52, 53, 54, 55, 56, 57] (by decide)).eq (in_digits c)) rfl ?_
  clear hp; intro w hp
  refine W_assign rfl rfl ?_
  refine W_nil ?_
  refine N_then_k ?_
  refine K_seq ?_
  refine K_seq ?_
  refine K_region ?_
  refine W_move rfl rfl ?_
  refine W_nil ?_
  refine N_then_k ?_
  refine K_block ?_
  refine K_seq ?_
  refine K_region ?_
  first
    | (refine W_eql_t rfl rfl ?_ rfl ?_; (focus (omega)))
    | (refine W_eql_f rfl rfl ?_ rfl ?_; (focus (omega)))
    | (refine W_eql rfl rfl rfl ?_)
  refine W_assign rfl rfl ?_
  refine W_nil ?_
  refine N_then_k ?_
  first
    | refine K_cond_d rfl (fun hc1 => ?_) (fun hc1 => ?_)
    | refine K_cond_n rfl (fun hc1 => ?_) (fun hc1 => ?_)
    | refine K_cond_nb rfl (fun hc1 => ?_) (fun hc1 => ?_)
    | refine K_cond_t rfl (fun hc1 => ?_) (fun hc1 => ?_)
  · try (exfalso; first | contradiction | omega)
    all_goals (
     refine K_seq ?_
     refine K_region ?_
     refine W_move rfl rfl ?_
     refine W_assign rfl rfl ?_
     refine W_nil ?_
     refine N_then_k ?_
     refine K_ret ?_
     refine N_block_ret ?_
     refine N_then_ret ?_
     refine N_done1 (.inr rfl) rfl rfl ?_
     refine ⟨_, rfl, congrArg Value.bool ?_, hp.nil⟩
     first
       | rfl
       | (refine Bool.eq_iff_iff.2 ?_; simp only [Bool.not_eq_true', decide_eq_true_eq, decide_eq_false_iff_not]; omega)
       | (refine (decide_eq_true ?_).symm; first | omega | (rw [← hcl]; first | exact Or.inl (by assumption) | exact Or.inr (Or.inl (by assumption)) | (constructor <;> intro h <;> first | exact Or.inr (Or.inr h) | (rcases h with h | h | h <;> first | exact h | contradiction))))
       | (refine (decide_eq_false ?_).symm; first | omega | (rw [← hcl]; first | exact Or.inl (by assumption) | exact Or.inr (Or.inl (by assumption)) | (constructor <;> intro h <;> first | exact Or.inr (Or.inr h) | (rcases h with h | h | h <;> first | exact h | contradiction))))
       | (refine decide_eq_decide.2 ?_; first | omega | (rw [← hcl]; first | exact Or.inl (by assumption) | exact Or.inr (Or.inl (by assumption)) | (constructor <;> intro h <;> first | exact Or.inr (Or.inr h) | (rcases h with h | h | h <;> first | exact h | contradiction)))))
  · try (exfalso; first | contradiction | omega)
    all_goals (
     refine K_seq ?_
     refine K_region ?_
     first
       | (refine W_eql_t rfl rfl ?_ rfl ?_; (focus (omega)))
       | (refine W_eql_f rfl rfl ?_ rfl ?_; (focus (omega)))
       | (refine W_eql rfl rfl rfl ?_)
     refine W_assign rfl rfl ?_
     refine W_nil ?_
     refine N_then_k ?_
     first
       | refine K_cond_d rfl (fun hc2 => ?_) (fun hc2 => ?_)
       | refine K_cond_n rfl (fun hc2 => ?_) (fun hc2 => ?_)
       | refine K_cond_nb rfl (fun hc2 => ?_) (fun hc2 => ?_)
       | refine K_cond_t rfl (fun hc2 => ?_) (fun hc2 => ?_)
     · try (exfalso; first | contradiction | omega)
       all_goals (
        refine K_seq ?_
        refine K_region ?_
        refine W_move rfl rfl ?_
        refine W_assign rfl rfl ?_
        refine W_nil ?_
        refine N_then_k ?_
        refine K_ret ?_
        refine N_block_ret ?_
        refine N_then_ret ?_
        refine N_done1 (.inr rfl) rfl rfl ?_
        refine ⟨_, rfl, congrArg Value.bool ?_, hp.nil⟩
        first
          | rfl
          | (refine Bool.eq_iff_iff.2 ?_; simp only [Bool.not_eq_true', decide_eq_true_eq, decide_eq_false_iff_not]; omega)
          | (refine (decide_eq_true ?_).symm; first | omega | (rw [← hcl]; first | exact Or.inl (by assumption) | exact Or.inr (Or.inl (by assumption)) | (constructor <;> intro h <;> first | exact Or.inr (Or.inr h) | (rcases h with h | h | h <;> first | exact h | contradiction))))
          | (refine (decide_eq_false ?_).symm; first | omega | (rw [← hcl]; first | exact Or.inl (by assumption) | exact Or.inr (Or.inl (by assumption)) | (constructor <;> intro h <;> first | exact Or.inr (Or.inr h) | (rcases h with h | h | h <;> first | exact h | contradiction))))
          | (refine decide_eq_decide.2 ?_; first | omega | (rw [← hcl]; first | exact Or.inl (by assumption) | exact Or.inr (Or.inl (by assumption)) | (constructor <;> intro h <;> first | exact Or.inr (Or.inr h) | (rcases h with h | h | h <;> first | exact h | contradiction)))))
     · try (exfalso; first | contradiction | omega)
       all_goals (
        refine K_seq ?_
        refine K_region ?_
        first
          | (refine W_eql_t rfl rfl ?_ rfl ?_; (focus (omega)))
          | (refine W_eql_f rfl rfl ?_ rfl ?_; (focus (omega)))
          | (refine W_eql rfl rfl rfl ?_)
        refine W_assign rfl rfl ?_
        refine W_nil ?_
        refine N_then_k ?_
        first
          | refine K_cond_d rfl (fun hc3 => ?_) (fun hc3 => ?_)
          | refine K_cond_n rfl (fun hc3 => ?_) (fun hc3 => ?_)
          | refine K_cond_nb rfl (fun hc3 => ?_) (fun hc3 => ?_)
          | refine K_cond_t rfl (fun hc3 => ?_) (fun hc3 => ?_)
        · try (exfalso; first | contradiction | omega)
          all_goals (
           refine K_seq ?_
           refine K_region ?_
           refine W_move rfl rfl ?_
           refine W_move rfl rfl ?_
           first
             | refine W_guard_lit_t rfl ?_
             | refine W_guard_lit_f rfl ?_
             | refine W_guard_lit_u rfl ?_
             | refine W_guard_split_d rfl rfl rfl (fun hg4 => ?_) (fun hg4 => ?_)
             | refine W_guard_split_n rfl rfl rfl (fun hg4 => ?_) (fun hg4 => ?_)
             | refine W_guard_split_nb rfl rfl rfl (fun hg4 => ?_) (fun hg4 => ?_)
             | refine W_guard_split rfl rfl rfl (fun hg4 => ?_) (fun hg4 => ?_)
           all_goals try (exfalso; first | contradiction | omega)
           all_goals (
            first
              | (refine W_guard_no rfl rfl rfl ?_)
              | (refine W_guard_un rfl rfl ?_)
              | (refine W_guard_yes rfl ?_
                 refine W_move rfl rfl ?_)
            first
              | (refine W_pick_t rfl rfl rfl ?_)
              | (refine W_pick_f rfl rfl rfl ?_)
              | (refine W_pick_b rfl rfl rfl rfl ?_)
            refine W_move rfl rfl ?_
            first
              | refine W_guard_lit_t rfl ?_
              | refine W_guard_lit_f rfl ?_
              | refine W_guard_lit_u rfl ?_
              | refine W_guard_split_d rfl rfl rfl (fun hg5 => ?_) (fun hg5 => ?_)
              | refine W_guard_split_n rfl rfl rfl (fun hg5 => ?_) (fun hg5 => ?_)
              | refine W_guard_split_nb rfl rfl rfl (fun hg5 => ?_) (fun hg5 => ?_)
              | refine W_guard_split rfl rfl rfl (fun hg5 => ?_) (fun hg5 => ?_)
            all_goals try (exfalso; first | contradiction | omega)
            all_goals (
             first
               | (iterate 2 refine W_guard_no rfl rfl rfl ?_)
               | (iterate 2 refine W_guard_un rfl rfl ?_)
               | (refine W_guard_yes rfl ?_
                  refine W_move rfl rfl ?_
                  refine W_guard_yes rfl ?_
                  refine W_pcall hp rfl (in_spec c [33, 35, 36, 37, 38, 39, 42, 43, 45, 46, 94, 95, 96, 124, 126] (by decide)) rfl ?_
                  clear hp; intro w hp)
             first
               | (refine W_pick_t rfl rfl rfl ?_)
               | (refine W_pick_f rfl rfl rfl ?_)
               | (refine W_pick_b rfl rfl rfl rfl ?_)
             refine W_assign rfl rfl ?_
             refine W_nil ?_
             refine N_then_k ?_
             refine K_ret ?_
             refine N_block_ret ?_
             refine N_then_ret ?_
             refine N_done1 (.inr rfl) rfl rfl ?_
             refine ⟨_, rfl, congrArg Value.bool ?_, hp.nil⟩
             first
               | rfl
               | (refine Bool.eq_iff_iff.2 ?_; simp only [Bool.not_eq_true', decide_eq_true_eq, decide_eq_false_iff_not]; omega)
               | (refine (decide_eq_true ?_).symm; first | omega | (rw [← hcl]; first | exact Or.inl (by assumption) | exact Or.inr (Or.inl (by assumption)) | (constructor <;> intro h <;> first | exact Or.inr (Or.inr h) | (rcases h with h | h | h <;> first | exact h | contradiction))))
               | (refine (decide_eq_false ?_).symm; first | omega | (rw [← hcl]; first | exact Or.inl (by assumption) | exact Or.inr (Or.inl (by assumption)) | (constructor <;> intro h <;> first | exact Or.inr (Or.inr h) | (rcases h with h | h | h <;> first | exact h | contradiction))))
               | (refine decide_eq_decide.2 ?_; first | omega | (rw [← hcl]; first | exact Or.inl (by assumption) | exact Or.inr (Or.inl (by assumption)) | (constructor <;> intro h <;> first | exact Or.inr (Or.inr h) | (rcases h with h | h | h <;> first | exact h | contradiction)))))))
        · try (exfalso; first | contradiction | omega)
          all_goals (
           refine K_seq ?_
           refine K_region ?_
           first
             | (refine W_eql_t rfl rfl ?_ rfl ?_; (focus (omega)))
             | (refine W_eql_f rfl rfl ?_ rfl ?_; (focus (omega)))
             | (refine W_eql rfl rfl rfl ?_)
           refine W_assign rfl rfl ?_
           refine W_nil ?_
           refine N_then_k ?_
           first
             | refine K_cond_d rfl (fun hc6 => ?_) (fun hc6 => ?_)
             | refine K_cond_n rfl (fun hc6 => ?_) (fun hc6 => ?_)
             | refine K_cond_nb rfl (fun hc6 => ?_) (fun hc6 => ?_)
             | refine K_cond_t rfl (fun hc6 => ?_) (fun hc6 => ?_)
           · try (exfalso; first | contradiction | omega)
             all_goals (
              refine K_seq ?_
              refine K_region ?_
              refine W_move rfl rfl ?_
              refine W_move rfl rfl ?_
              first
                | refine W_guard_lit_t rfl ?_
                | refine W_guard_lit_f rfl ?_
                | refine W_guard_lit_u rfl ?_
                | refine W_guard_split_d rfl rfl rfl (fun hg7 => ?_) (fun hg7 => ?_)
                | refine W_guard_split_n rfl rfl rfl (fun hg7 => ?_) (fun hg7 => ?_)
                | refine W_guard_split_nb rfl rfl rfl (fun hg7 => ?_) (fun hg7 => ?_)
                | refine W_guard_split rfl rfl rfl (fun hg7 => ?_) (fun hg7 => ?_)
              all_goals try (exfalso; first | contradiction | omega)
              all_goals (
               first
                 | (refine W_guard_no rfl rfl rfl ?_)
                 | (refine W_guard_un rfl rfl ?_)
                 | (refine W_guard_yes rfl ?_
                    refine W_move rfl rfl ?_)
               first
                 | (refine W_pick_t rfl rfl rfl ?_)
                 | (refine W_pick_f rfl rfl rfl ?_)
                 | (refine W_pick_b rfl rfl rfl rfl ?_)
               refine W_move rfl rfl ?_
               first
                 | refine W_guard_lit_t rfl ?_
                 | refine W_guard_lit_f rfl ?_
                 | refine W_guard_lit_u rfl ?_
                 | refine W_guard_split_d rfl rfl rfl (fun hg8 => ?_) (fun hg8 => ?_)
                 | refine W_guard_split_n rfl rfl rfl (fun hg8 => ?_) (fun hg8 => ?_)
                 | refine W_guard_split_nb rfl rfl rfl (fun hg8 => ?_) (fun hg8 => ?_)
                 | refine W_guard_split rfl rfl rfl (fun hg8 => ?_) (fun hg8 => ?_)
               all_goals try (exfalso; first | contradiction | omega)
               all_goals (
                first
                  | (iterate 2 refine W_guard_no rfl rfl rfl ?_)
                  | (iterate 2 refine W_guard_un rfl rfl ?_)
                  | (refine W_guard_yes rfl ?_
                     refine W_move rfl rfl ?_
                     refine W_guard_yes rfl ?_
                     refine W_pcall hp rfl (in_spec c [45, 46, 95, 126] (by decide)) rfl ?_
                     clear hp; intro w hp)
                first
                  | (refine W_pick_t rfl rfl rfl ?_)
                  | (refine W_pick_f rfl rfl rfl ?_)
                  | (refine W_pick_b rfl rfl rfl rfl ?_)
                refine W_assign rfl rfl ?_
                refine W_nil ?_
                refine N_then_k ?_
                refine K_ret ?_
                refine N_block_ret ?_
                refine N_then_ret ?_
                refine N_done1 (.inr rfl) rfl rfl ?_
                refine ⟨_, rfl, congrArg Value.bool ?_, hp.nil⟩
                first
                  | rfl
                  | (refine Bool.eq_iff_iff.2 ?_; simp only [Bool.not_eq_true', decide_eq_true_eq, decide_eq_false_iff_not]; omega)
                  | (refine (decide_eq_true ?_).symm; first | omega | (rw [← hcl]; first | exact Or.inl (by assumption) | exact Or.inr (Or.inl (by assumption)) | (constructor <;> intro h <;> first | exact Or.inr (Or.inr h) | (rcases h with h | h | h <;> first | exact h | contradiction))))
                  | (refine (decide_eq_false ?_).symm; first | omega | (rw [← hcl]; first | exact Or.inl (by assumption) | exact Or.inr (Or.inl (by assumption)) | (constructor <;> intro h <;> first | exact Or.inr (Or.inr h) | (rcases h with h | h | h <;> first | exact h | contradiction))))
                  | (refine decide_eq_decide.2 ?_; first | omega | (rw [← hcl]; first | exact Or.inl (by assumption) | exact Or.inr (Or.inl (by assumption)) | (constructor <;> intro h <;> first | exact Or.inr (Or.inr h) | (rcases h with h | h | h <;> first | exact h | contradiction)))))))
           · try (exfalso; first | contradiction | omega)
             all_goals (
              refine K_seq ?_
              refine K_region ?_
              first
                | (refine W_eql_t rfl rfl ?_ rfl ?_; (focus (omega)))
                | (refine W_eql_f rfl rfl ?_ rfl ?_; (focus (omega)))
                | (refine W_eql rfl rfl rfl ?_)
              refine W_assign rfl rfl ?_
              refine W_nil ?_
              refine N_then_k ?_
              first
                | refine K_cond_d rfl (fun hc9 => ?_) (fun hc9 => ?_)
                | refine K_cond_n rfl (fun hc9 => ?_) (fun hc9 => ?_)
                | refine K_cond_nb rfl (fun hc9 => ?_) (fun hc9 => ?_)
                | refine K_cond_t rfl (fun hc9 => ?_) (fun hc9 => ?_)
              · try (exfalso; first | contradiction | omega)
                all_goals (
                 refine K_seq ?_
                 refine K_region ?_
                 refine W_move rfl rfl ?_
                 refine W_move rfl rfl ?_
                 first
                   | refine W_guard_lit_t rfl ?_
                   | refine W_guard_lit_f rfl ?_
                   | refine W_guard_lit_u rfl ?_
                   | refine W_guard_split_d rfl rfl rfl (fun hg10 => ?_) (fun hg10 => ?_)
                   | refine W_guard_split_n rfl rfl rfl (fun hg10 => ?_) (fun hg10 => ?_)
                   | refine W_guard_split_nb rfl rfl rfl (fun hg10 => ?_) (fun hg10 => ?_)
                   | refine W_guard_split rfl rfl rfl (fun hg10 => ?_) (fun hg10 => ?_)
                 all_goals try (exfalso; first | contradiction | omega)
                 all_goals (
                  first
                    | (refine W_guard_no rfl rfl rfl ?_)
                    | (refine W_guard_un rfl rfl ?_)
                    | (refine W_guard_yes rfl ?_
                       refine W_move rfl rfl ?_)
                  first
                    | (refine W_pick_t rfl rfl rfl ?_)
                    | (refine W_pick_f rfl rfl rfl ?_)
                    | (refine W_pick_b rfl rfl rfl rfl ?_)
                  refine W_move rfl rfl ?_
                  first
                    | refine W_guard_lit_t rfl ?_
                    | refine W_guard_lit_f rfl ?_
                    | refine W_guard_lit_u rfl ?_
                    | refine W_guard_split_d rfl rfl rfl (fun hg11 => ?_) (fun hg11 => ?_)
                    | refine W_guard_split_n rfl rfl rfl (fun hg11 => ?_) (fun hg11 => ?_)
                    | refine W_guard_split_nb rfl rfl rfl (fun hg11 => ?_) (fun hg11 => ?_)
                    | refine W_guard_split rfl rfl rfl (fun hg11 => ?_) (fun hg11 => ?_)
                  all_goals try (exfalso; first | contradiction | omega)
                  all_goals (
                   first
                     | (iterate 2 refine W_guard_no rfl rfl rfl ?_)
                     | (iterate 2 refine W_guard_un rfl rfl ?_)
                     | (refine W_guard_yes rfl ?_
                        refine W_move rfl rfl ?_
                        refine W_guard_yes rfl ?_
                        refine W_pcall hp rfl (in_spec c [45, 46, 95, 126, 33, 36, 38, 39, 40, 41, 42, 43, 44, 59, 61, 58, 64] (by decide)) rfl ?_
                        clear hp; intro w hp)
                   first
                     | (refine W_pick_t rfl rfl rfl ?_)
                     | (refine W_pick_f rfl rfl rfl ?_)
                     | (refine W_pick_b rfl rfl rfl rfl ?_)
                   refine W_assign rfl rfl ?_
                   refine W_nil ?_
                   refine N_then_k ?_
                   refine K_ret ?_
                   refine N_block_ret ?_
                   refine N_then_ret ?_
                   refine N_done1 (.inr rfl) rfl rfl ?_
                   refine ⟨_, rfl, congrArg Value.bool ?_, hp.nil⟩
                   first
                     | rfl
                     | (refine Bool.eq_iff_iff.2 ?_; simp only [Bool.not_eq_true', decide_eq_true_eq, decide_eq_false_iff_not]; omega)
                     | (refine (decide_eq_true ?_).symm; first | omega | (rw [← hcl]; first | exact Or.inl (by assumption) | exact Or.inr (Or.inl (by assumption)) | (constructor <;> intro h <;> first | exact Or.inr (Or.inr h) | (rcases h with h | h | h <;> first | exact h | contradiction))))
                     | (refine (decide_eq_false ?_).symm; first | omega | (rw [← hcl]; first | exact Or.inl (by assumption) | exact Or.inr (Or.inl (by assumption)) | (constructor <;> intro h <;> first | exact Or.inr (Or.inr h) | (rcases h with h | h | h <;> first | exact h | contradiction))))
                     | (refine decide_eq_decide.2 ?_; first | omega | (rw [← hcl]; first | exact Or.inl (by assumption) | exact Or.inr (Or.inl (by assumption)) | (constructor <;> intro h <;> first | exact Or.inr (Or.inr h) | (rcases h with h | h | h <;> first | exact h | contradiction)))))))
              · try (exfalso; first | contradiction | omega)
                all_goals (
                 refine K_skip ?_
                 refine N_block_normal ?_
                 refine N_then_k ?_
                 refine K_seq ?_
                 refine K_region ?_
                 refine W_move rfl rfl ?_
                 first
                   | (refine W_eql_t rfl rfl ?_ rfl ?_; (focus (omega)))
                   | (refine W_eql_f rfl rfl ?_ rfl ?_; (focus (omega)))
                   | (refine W_eql rfl rfl rfl ?_)
                 refine W_move rfl rfl ?_
                 first
                   | refine W_guard_lit_t rfl ?_
                   | refine W_guard_lit_f rfl ?_
                   | refine W_guard_lit_u rfl ?_
                   | refine W_guard_split_d rfl rfl rfl (fun hg12 => ?_) (fun hg12 => ?_)
                   | refine W_guard_split_n rfl rfl rfl (fun hg12 => ?_) (fun hg12 => ?_)
                   | refine W_guard_split_nb rfl rfl rfl (fun hg12 => ?_) (fun hg12 => ?_)
                   | refine W_guard_split rfl rfl rfl (fun hg12 => ?_) (fun hg12 => ?_)
                 all_goals try (exfalso; first | contradiction | omega)
                 all_goals (
                  first
                    | (iterate 3 refine W_guard_no rfl rfl rfl ?_)
                    | (iterate 3 refine W_guard_un rfl rfl ?_)
                    | (refine W_guard_yes rfl ?_
                       refine W_move rfl rfl ?_
                       refine W_guard_yes rfl ?_
                       first
                         | (refine W_geq_t rfl rfl ?_ rfl ?_; (focus (omega)))
                         | (refine W_geq_f rfl rfl ?_ rfl ?_; (focus (omega)))
                         | (refine W_geq rfl rfl rfl ?_)
                       refine W_guard_yes rfl ?_
                       refine W_move rfl rfl ?_)
                  first
                    | refine W_guard_lit_t rfl ?_
                    | refine W_guard_lit_f rfl ?_
                    | refine W_guard_lit_u rfl ?_
                    | refine W_guard_split_d rfl rfl rfl (fun hg13 => ?_) (fun hg13 => ?_)
                    | refine W_guard_split_n rfl rfl rfl (fun hg13 => ?_) (fun hg13 => ?_)
                    | refine W_guard_split_nb rfl rfl rfl (fun hg13 => ?_) (fun hg13 => ?_)
                    | refine W_guard_split rfl rfl rfl (fun hg13 => ?_) (fun hg13 => ?_)
                  all_goals try (exfalso; first | contradiction | omega)
                  all_goals (
                   first
                     | (iterate 2 refine W_guard_no rfl rfl rfl ?_)
                     | (iterate 2 refine W_guard_un rfl rfl ?_)
                     | (refine W_guard_yes rfl ?_
                        refine W_move rfl rfl ?_
                        refine W_guard_yes rfl ?_
                        first
                          | (refine W_neq_t rfl rfl ?_ rfl ?_; (focus (omega)))
                          | (refine W_neq_f rfl rfl ?_ rfl ?_; (focus (omega)))
                          | (refine W_neq rfl rfl rfl ?_))
                   first
                     | (refine W_guard_no rfl rfl rfl ?_)
                     | (refine W_guard_un rfl rfl ?_)
                     | (refine W_guard_yes rfl ?_
                        first
                          | (refine W_pick_t rfl rfl rfl ?_)
                          | (refine W_pick_f rfl rfl rfl ?_)
                          | (refine W_pick_b rfl rfl rfl rfl ?_))
                   first
                     | (refine W_pick_t rfl rfl rfl ?_)
                     | (refine W_pick_f rfl rfl rfl ?_)
                     | (refine W_pick_b rfl rfl rfl rfl ?_)
                   refine W_assign rfl rfl ?_
                   refine W_nil ?_
                   refine N_then_k ?_
                   refine K_ret ?_
                   refine N_done1 (.inr rfl) rfl rfl ?_
                   refine ⟨_, rfl, congrArg Value.bool ?_, hp.nil⟩
                   first
                     | rfl
                     | (refine Bool.eq_iff_iff.2 ?_; simp only [Bool.not_eq_true', decide_eq_true_eq, decide_eq_false_iff_not]; omega)
                     | (refine (decide_eq_true ?_).symm; first | omega | (rw [← hcl]; first | exact Or.inl (by assumption) | exact Or.inr (Or.inl (by assumption)) | (constructor <;> intro h <;> first | exact Or.inr (Or.inr h) | (rcases h with h | h | h <;> first | exact h | contradiction))))
                     | (refine (decide_eq_false ?_).symm; first | omega | (rw [← hcl]; first | exact Or.inl (by assumption) | exact Or.inr (Or.inl (by assumption)) | (constructor <;> intro h <;> first | exact Or.inr (Or.inr h) | (rcases h with h | h | h <;> first | exact h | contradiction))))
                     | (refine decide_eq_decide.2 ?_; first | omega | (rw [← hcl]; first | exact Or.inl (by assumption) | exact Or.inr (Or.inl (by assumption)) | (constructor <;> intro h <;> first | exact Or.inr (Or.inr h) | (rcases h with h | h | h <;> first | exact h | contradiction)))))))))))

theorem rall2_spec (s : List UInt8) (hl : s.length ≤ 9000000000000000000) : PureF Try.prog 19 [.string ⟨s.toArray⟩, .int .i64 2] (.bool (s.all tokenB)) := by
  refine PureF.intro go19 Try.func19 rfl rfl fun w0 hp => ?_
  refine K_seq ?_
  refine K_region ?_
  refine W_assign rfl rfl ?_
  refine W_nil ?_
  refine N_then_k ?_
  refine K_seq ?_
  refine K_seq ?_
  refine K_region ?_
  refine W_assign rfl rfl ?_
  refine W_nil ?_
  refine N_then_k ?_
  refine K_block ?_
  refine K_loop (σ := Nat) [4, 5, 6, 7, 8, 9, 10, 11, 12, 13, 14, 15, 16, 17]
      (fun k => [(5, .int .i64 k)])
      (fun k w => Hp w0 [] [] w ∧ k ≤ s.length ∧ (s.take k).all tokenB = true)
      (fun k => s.length - k) (0) ?_ ?_ ?_
  · repeat' (first | exact sub_lst_nil (sub_nil _) | refine sub_lst rfl ?_ | (refine sub_lst_eq rfl ?_ ?_; · first | rfl | (simp; done) | (congr 1; omega)))
  · exact ⟨hp, Nat.zero_le _, by simp⟩
  · intro k w hJ
    clear hp
    obtain ⟨hp, hle, ha⟩ := hJ
    rcases Nat.lt_or_ge k (s.length) with hlt | hge
    all_goals (
     refine K_seq ?_
     refine K_seq ?_
     refine K_region ?_
     refine W_move rfl rfl ?_
     refine W_move rfl rfl ?_
     refine W_len_s Try.underlying9 rfl rfl ?_
     first
       | (refine W_lss_t rfl rfl ?_ rfl ?_; (focus (omega)))
       | (refine W_lss_f rfl rfl ?_ rfl ?_; (focus (omega)))
       | (refine W_lss rfl rfl rfl ?_)
     refine W_nil ?_
     refine N_then_k ?_
     first
       | refine K_cond_d rfl (fun hc1 => ?_) (fun hc1 => ?_)
       | refine K_cond_n rfl (fun hc1 => ?_) (fun hc1 => ?_)
       | refine K_cond_nb rfl (fun hc1 => ?_) (fun hc1 => ?_)
       | refine K_cond_t rfl (fun hc1 => ?_) (fun hc1 => ?_)
     · try (exfalso; first | contradiction | omega)
       all_goals (
        refine K_skip ?_
        refine N_then_k ?_
        refine K_seq ?_
        refine K_block ?_
        refine K_seq ?_
        refine K_region ?_
        obtain ⟨c, hc⟩ : ∃ c, s[k]? = some c := ⟨_, List.getElem?_eq_getElem hlt⟩
        refine W_move rfl rfl ?_
        refine W_move rfl rfl ?_
        refine W_index_s Try.underlying9 rfl rfl ?_ (by first | assumption | exact rfl | exact idx_getD (by first | omega | (simp; omega))) rfl ?_
        (focus (omega))
        refine W_move rfl rfl ?_
        refine W_pcall hp rfl (class2_spec c) rfl ?_
        clear hp; intro w hp
        first
          | (refine W_not_t rfl rfl ?_)
          | (refine W_not_f rfl rfl ?_)
          | (refine W_not rfl rfl ?_)
        refine W_nil ?_
        refine N_then_k ?_
        first
          | refine K_cond_d rfl (fun hc2 => ?_) (fun hc2 => ?_)
          | refine K_cond_n rfl (fun hc2 => ?_) (fun hc2 => ?_)
          | refine K_cond_nb rfl (fun hc2 => ?_) (fun hc2 => ?_)
          | refine K_cond_t rfl (fun hc2 => ?_) (fun hc2 => ?_)
        · try (exfalso; first | contradiction | omega)
          all_goals (
           refine K_seq ?_
           refine K_region ?_
           refine W_assign rfl rfl ?_
           refine W_nil ?_
           refine N_then_k ?_
           refine K_ret ?_
           refine N_block_ret ?_
           refine N_then_ret ?_
           refine N_then_ret ?_
           refine N_block_ret ?_
           refine N_then_ret ?_
           refine N_done1 (.inr rfl) rfl rfl ?_
           refine ⟨_, rfl, congrArg Value.bool ?_, hp.nil⟩
           first
             | (rw [all_not hc (decide_eq_false (by assumption))])
             | (rw [List.take_of_length_le ‹s.length ≤ k›] at ha; rw [ha]))
        · try (exfalso; first | contradiction | omega)
          all_goals (
           refine K_skip ?_
           refine N_block_normal ?_
           refine N_then_k ?_
           refine K_region ?_
           refine W_move rfl rfl ?_
           first
             | (refine W_add rfl rfl (wr_i64 ?_) rfl ?_; (focus (omega)))
             | (refine W_add rfl rfl rfl rfl ?_)
           refine W_assign rfl rfl ?_
           refine W_nil ?_
           refine N_again (k + 1) (sub_end ?_ ?_) ?_ ?_
           · repeat' (first | exact sub_lst_nil (sub_nil _) | refine sub_lst rfl ?_ | (refine sub_lst_eq rfl ?_ ?_; · first | rfl | (simp; done) | (congr 1; omega)))
           · repeat' (first | exact sub_refl _ | exact sub_strip _ _ | refine sub_s_cons rfl ?_ | refine sub_s_lst rfl ?_ | refine sub_s_strip rfl ?_)
           · refine ⟨hp, hlt, ?_⟩
             rw [all_take hc, ha]; exact (Bool.true_and _).trans (decide_eq_true (by assumption))
           · omega))
     · try (exfalso; first | contradiction | omega)
       all_goals (
        refine K_exit ?_
        refine N_then_exit ?_
        refine N_then_exit ?_
        refine N_block_exit ?_
        refine N_then_k ?_
        refine K_seq ?_
        refine K_region ?_
        refine W_assign rfl rfl ?_
        refine W_nil ?_
        refine N_then_k ?_
        refine K_ret ?_
        refine N_done1 (.inr rfl) rfl rfl ?_
        refine ⟨_, rfl, congrArg Value.bool ?_, hp.nil⟩
        first
          | (rw [all_not hc (decide_eq_false (by assumption))])
          | (rw [List.take_of_length_le ‹s.length ≤ k›] at ha; rw [ha])))

theorem rall4_spec (s : List UInt8) (hl : s.length ≤ 9000000000000000000) : PureF Try.prog 19 [.string ⟨s.toArray⟩, .int .i64 4] (.bool (s.all pathB)) := by
  refine PureF.intro go19 Try.func19 rfl rfl fun w0 hp => ?_
  refine K_seq ?_
  refine K_region ?_
  refine W_assign rfl rfl ?_
  refine W_nil ?_
  refine N_then_k ?_
  refine K_seq ?_
  refine K_seq ?_
  refine K_region ?_
  refine W_assign rfl rfl ?_
  refine W_nil ?_
  refine N_then_k ?_
  refine K_block ?_
  refine K_loop (σ := Nat) [4, 5, 6, 7, 8, 9, 10, 11, 12, 13, 14, 15, 16, 17]
      (fun k => [(5, .int .i64 k)])
      (fun k w => Hp w0 [] [] w ∧ k ≤ s.length ∧ (s.take k).all pathB = true)
      (fun k => s.length - k) (0) ?_ ?_ ?_
  · repeat' (first | exact sub_lst_nil (sub_nil _) | refine sub_lst rfl ?_ | (refine sub_lst_eq rfl ?_ ?_; · first | rfl | (simp; done) | (congr 1; omega)))
  · exact ⟨hp, Nat.zero_le _, by simp⟩
  · intro k w hJ
    clear hp
    obtain ⟨hp, hle, ha⟩ := hJ
    rcases Nat.lt_or_ge k (s.length) with hlt | hge
    all_goals (
     refine K_seq ?_
     refine K_seq ?_
     refine K_region ?_
     refine W_move rfl rfl ?_
     refine W_move rfl rfl ?_
     refine W_len_s Try.underlying9 rfl rfl ?_
     first
       | (refine W_lss_t rfl rfl ?_ rfl ?_; (focus (omega)))
       | (refine W_lss_f rfl rfl ?_ rfl ?_; (focus (omega)))
       | (refine W_lss rfl rfl rfl ?_)
     refine W_nil ?_
     refine N_then_k ?_
     first
       | refine K_cond_d rfl (fun hc1 => ?_) (fun hc1 => ?_)
       | refine K_cond_n rfl (fun hc1 => ?_) (fun hc1 => ?_)
       | refine K_cond_nb rfl (fun hc1 => ?_) (fun hc1 => ?_)
       | refine K_cond_t rfl (fun hc1 => ?_) (fun hc1 => ?_)
     · try (exfalso; first | contradiction | omega)
       all_goals (
        refine K_skip ?_
        refine N_then_k ?_
        refine K_seq ?_
        refine K_block ?_
        refine K_seq ?_
        refine K_region ?_
        obtain ⟨c, hc⟩ : ∃ c, s[k]? = some c := ⟨_, List.getElem?_eq_getElem hlt⟩
        refine W_move rfl rfl ?_
        refine W_move rfl rfl ?_
        refine W_index_s Try.underlying9 rfl rfl ?_ (by first | assumption | exact rfl | exact idx_getD (by first | omega | (simp; omega))) rfl ?_
        (focus (omega))
        refine W_move rfl rfl ?_
        refine W_pcall hp rfl (class4_spec c) rfl ?_
        clear hp; intro w hp
        first
          | (refine W_not_t rfl rfl ?_)
          | (refine W_not_f rfl rfl ?_)
          | (refine W_not rfl rfl ?_)
        refine W_nil ?_
        refine N_then_k ?_
        first
          | refine K_cond_d rfl (fun hc2 => ?_) (fun hc2 => ?_)
          | refine K_cond_n rfl (fun hc2 => ?_) (fun hc2 => ?_)
          | refine K_cond_nb rfl (fun hc2 => ?_) (fun hc2 => ?_)
          | refine K_cond_t rfl (fun hc2 => ?_) (fun hc2 => ?_)
        · try (exfalso; first | contradiction | omega)
          all_goals (
           refine K_seq ?_
           refine K_region ?_
           refine W_assign rfl rfl ?_
           refine W_nil ?_
           refine N_then_k ?_
           refine K_ret ?_
           refine N_block_ret ?_
           refine N_then_ret ?_
           refine N_then_ret ?_
           refine N_block_ret ?_
           refine N_then_ret ?_
           refine N_done1 (.inr rfl) rfl rfl ?_
           refine ⟨_, rfl, congrArg Value.bool ?_, hp.nil⟩
           first
             | (rw [all_not hc (decide_eq_false (by assumption))])
             | (rw [List.take_of_length_le ‹s.length ≤ k›] at ha; rw [ha]))
        · try (exfalso; first | contradiction | omega)
          all_goals (
           refine K_skip ?_
           refine N_block_normal ?_
           refine N_then_k ?_
           refine K_region ?_
           refine W_move rfl rfl ?_
           first
             | (refine W_add rfl rfl (wr_i64 ?_) rfl ?_; (focus (omega)))
             | (refine W_add rfl rfl rfl rfl ?_)
           refine W_assign rfl rfl ?_
           refine W_nil ?_
           refine N_again (k + 1) (sub_end ?_ ?_) ?_ ?_
           · repeat' (first | exact sub_lst_nil (sub_nil _) | refine sub_lst rfl ?_ | (refine sub_lst_eq rfl ?_ ?_; · first | rfl | (simp; done) | (congr 1; omega)))
           · repeat' (first | exact sub_refl _ | exact sub_strip _ _ | refine sub_s_cons rfl ?_ | refine sub_s_lst rfl ?_ | refine sub_s_strip rfl ?_)
           · refine ⟨hp, hlt, ?_⟩
             rw [all_take hc, ha]; exact (Bool.true_and _).trans (decide_eq_true (by assumption))
           · omega))
     · try (exfalso; first | contradiction | omega)
       all_goals (
        refine K_exit ?_
        refine N_then_exit ?_
        refine N_then_exit ?_
        refine N_block_exit ?_
        refine N_then_k ?_
        refine K_seq ?_
        refine K_region ?_
        refine W_assign rfl rfl ?_
        refine W_nil ?_
        refine N_then_k ?_
        refine K_ret ?_
        refine N_done1 (.inr rfl) rfl rfl ?_
        refine ⟨_, rfl, congrArg Value.bool ?_, hp.nil⟩
        first
          | (rw [all_not hc (decide_eq_false (by assumption))])
          | (rw [List.take_of_length_le ‹s.length ≤ k›] at ha; rw [ha])))

theorem rall5_spec (s : List UInt8) (hl : s.length ≤ 9000000000000000000) : PureF Try.prog 19 [.string ⟨s.toArray⟩, .int .i64 5] (.bool (s.all fieldB)) := by
  refine PureF.intro go19 Try.func19 rfl rfl fun w0 hp => ?_
  refine K_seq ?_
  refine K_region ?_
  refine W_assign rfl rfl ?_
  refine W_nil ?_
  refine N_then_k ?_
  refine K_seq ?_
  refine K_seq ?_
  refine K_region ?_
  refine W_assign rfl rfl ?_
  refine W_nil ?_
  refine N_then_k ?_
  refine K_block ?_
  refine K_loop (σ := Nat) [4, 5, 6, 7, 8, 9, 10, 11, 12, 13, 14, 15, 16, 17]
      (fun k => [(5, .int .i64 k)])
      (fun k w => Hp w0 [] [] w ∧ k ≤ s.length ∧ (s.take k).all fieldB = true)
      (fun k => s.length - k) (0) ?_ ?_ ?_
  · repeat' (first | exact sub_lst_nil (sub_nil _) | refine sub_lst rfl ?_ | (refine sub_lst_eq rfl ?_ ?_; · first | rfl | (simp; done) | (congr 1; omega)))
  · exact ⟨hp, Nat.zero_le _, by simp⟩
  · intro k w hJ
    clear hp
    obtain ⟨hp, hle, ha⟩ := hJ
    rcases Nat.lt_or_ge k (s.length) with hlt | hge
    all_goals (
     refine K_seq ?_
     refine K_seq ?_
     refine K_region ?_
     refine W_move rfl rfl ?_
     refine W_move rfl rfl ?_
     refine W_len_s Try.underlying9 rfl rfl ?_
     first
       | (refine W_lss_t rfl rfl ?_ rfl ?_; (focus (omega)))
       | (refine W_lss_f rfl rfl ?_ rfl ?_; (focus (omega)))
       | (refine W_lss rfl rfl rfl ?_)
     refine W_nil ?_
     refine N_then_k ?_
     first
       | refine K_cond_d rfl (fun hc1 => ?_) (fun hc1 => ?_)
       | refine K_cond_n rfl (fun hc1 => ?_) (fun hc1 => ?_)
       | refine K_cond_nb rfl (fun hc1 => ?_) (fun hc1 => ?_)
       | refine K_cond_t rfl (fun hc1 => ?_) (fun hc1 => ?_)
     · try (exfalso; first | contradiction | omega)
       all_goals (
        refine K_skip ?_
        refine N_then_k ?_
        refine K_seq ?_
        refine K_block ?_
        refine K_seq ?_
        refine K_region ?_
        obtain ⟨c, hc⟩ : ∃ c, s[k]? = some c := ⟨_, List.getElem?_eq_getElem hlt⟩
        refine W_move rfl rfl ?_
        refine W_move rfl rfl ?_
        refine W_index_s Try.underlying9 rfl rfl ?_ (by first | assumption | exact rfl | exact idx_getD (by first | omega | (simp; omega))) rfl ?_
        (focus (omega))
        refine W_move rfl rfl ?_
        refine W_pcall hp rfl (class5_spec c) rfl ?_
        clear hp; intro w hp
        first
          | (refine W_not_t rfl rfl ?_)
          | (refine W_not_f rfl rfl ?_)
          | (refine W_not rfl rfl ?_)
        refine W_nil ?_
        refine N_then_k ?_
        first
          | refine K_cond_d rfl (fun hc2 => ?_) (fun hc2 => ?_)
          | refine K_cond_n rfl (fun hc2 => ?_) (fun hc2 => ?_)
          | refine K_cond_nb rfl (fun hc2 => ?_) (fun hc2 => ?_)
          | refine K_cond_t rfl (fun hc2 => ?_) (fun hc2 => ?_)
        · try (exfalso; first | contradiction | omega)
          all_goals (
           refine K_seq ?_
           refine K_region ?_
           refine W_assign rfl rfl ?_
           refine W_nil ?_
           refine N_then_k ?_
           refine K_ret ?_
           refine N_block_ret ?_
           refine N_then_ret ?_
           refine N_then_ret ?_
           refine N_block_ret ?_
           refine N_then_ret ?_
           refine N_done1 (.inr rfl) rfl rfl ?_
           refine ⟨_, rfl, congrArg Value.bool ?_, hp.nil⟩
           first
             | (rw [all_not hc (decide_eq_false (by assumption))])
             | (rw [List.take_of_length_le ‹s.length ≤ k›] at ha; rw [ha]))
        · try (exfalso; first | contradiction | omega)
          all_goals (
           refine K_skip ?_
           refine N_block_normal ?_
           refine N_then_k ?_
           refine K_region ?_
           refine W_move rfl rfl ?_
           first
             | (refine W_add rfl rfl (wr_i64 ?_) rfl ?_; (focus (omega)))
             | (refine W_add rfl rfl rfl rfl ?_)
           refine W_assign rfl rfl ?_
           refine W_nil ?_
           refine N_again (k + 1) (sub_end ?_ ?_) ?_ ?_
           · repeat' (first | exact sub_lst_nil (sub_nil _) | refine sub_lst rfl ?_ | (refine sub_lst_eq rfl ?_ ?_; · first | rfl | (simp; done) | (congr 1; omega)))
           · repeat' (first | exact sub_refl _ | exact sub_strip _ _ | refine sub_s_cons rfl ?_ | refine sub_s_lst rfl ?_ | refine sub_s_strip rfl ?_)
           · refine ⟨hp, hlt, ?_⟩
             rw [all_take hc, ha]; exact (Bool.true_and _).trans (decide_eq_true (by assumption))
           · omega))
     · try (exfalso; first | contradiction | omega)
       all_goals (
        refine K_exit ?_
        refine N_then_exit ?_
        refine N_then_exit ?_
        refine N_block_exit ?_
        refine N_then_k ?_
        refine K_seq ?_
        refine K_region ?_
        refine W_assign rfl rfl ?_
        refine W_nil ?_
        refine N_then_k ?_
        refine K_ret ?_
        refine N_done1 (.inr rfl) rfl rfl ?_
        refine ⟨_, rfl, congrArg Value.bool ?_, hp.nil⟩
        first
          | (rw [all_not hc (decide_eq_false (by assumption))])
          | (rw [List.take_of_length_le ‹s.length ≤ k›] at ha; rw [ha])))

theorem risToken_spec (s : List UInt8) (hl : s.length ≤ 9000000000000000000) : PureF Try.prog 21 [.string ⟨s.toArray⟩] (.bool (isToken s)) := by
  refine PureF.intro go21 Try.func21 rfl rfl fun w0 hp => ?_
  refine K_seq ?_
  refine K_region ?_
  refine W_assign rfl rfl ?_
  refine W_nil ?_
  refine N_then_k ?_
  refine K_seq ?_
  refine K_region ?_
  refine W_move rfl rfl ?_
  refine W_len_s Try.underlying9 rfl rfl ?_
  first
    | (refine W_gtr_t rfl rfl ?_ rfl ?_; (focus (omega)))
    | (refine W_gtr_f rfl rfl ?_ rfl ?_; (focus (omega)))
    | (refine W_gtr rfl rfl rfl ?_)
  refine W_move rfl rfl ?_
  first
    | refine W_guard_lit_t rfl ?_
    | refine W_guard_lit_f rfl ?_
    | refine W_guard_lit_u rfl ?_
    | refine W_guard_split_d rfl rfl rfl (fun hg1 => ?_) (fun hg1 => ?_)
    | refine W_guard_split_n rfl rfl rfl (fun hg1 => ?_) (fun hg1 => ?_)
    | refine W_guard_split_nb rfl rfl rfl (fun hg1 => ?_) (fun hg1 => ?_)
    | refine W_guard_split rfl rfl rfl (fun hg1 => ?_) (fun hg1 => ?_)
  all_goals try (exfalso; first | contradiction | omega)
  all_goals (
   first
     | (iterate 2 refine W_guard_no rfl rfl rfl ?_)
     | (iterate 2 refine W_guard_un rfl rfl ?_)
     | (refine W_guard_yes rfl ?_
        refine W_move rfl rfl ?_
        refine W_guard_yes rfl ?_
        refine W_pcall hp rfl (rall2_spec s hl) rfl ?_
        clear hp; intro w hp)
   first
     | (refine W_pick_t rfl rfl rfl ?_)
     | (refine W_pick_f rfl rfl rfl ?_)
     | (refine W_pick_b rfl rfl rfl rfl ?_)
   refine W_assign rfl rfl ?_
   refine W_nil ?_
   refine N_then_k ?_
   refine K_ret ?_
   refine N_done1 (.inr rfl) rfl rfl ?_
   refine ⟨_, rfl, congrArg Value.bool ?_, hp.nil⟩
   cases s <;> simp_all [isToken])

def hexD1 : List UInt8 := [48, 49, 50, 51, 52, 53, 54, 55, 56, 57, 97, 98, 99, 100, 101, 102]
def hexD2 : List UInt8 := [48, 49, 50, 51, 52, 53, 54, 55, 56, 57, 65, 66, 67, 68, 69, 70]
theorem hex_found : ∀ (k : Nat), k < 16 → hexI (hexD1.getD k 0).toNat = k ∧ hexI (hexD2.getD k 0).toNat = k := fun k h => (show ∀ k : Fin 16, hexI (hexD1.getD k.val 0).toNat = k.val ∧ hexI (hexD2.getD k.val 0).toNat = k.val by decide +kernel) ⟨k, h⟩
theorem hex_none0 : ∀ c : UInt8, (∀ j : Fin 16, (hexD1.getD j.val 0).toNat ≠ c.toNat ∧ (hexD2.getD j.val 0).toNat ≠ c.toNat) → hexI c.toNat = -1 := u8_all (by decide +kernel)
theorem hex_none {c : UInt8} (h : ∀ j, j < 16 → (hexD1.getD j 0).toNat ≠ c.toNat ∧ (hexD2.getD j 0).toNat ≠ c.toNat) : hexI c.toNat = -1 := hex_none0 c fun j => h j.val j.isLt

theorem rhex_spec (c : UInt8) : PureF Try.prog 10 [.int .u8 (c.toNat : Int)] (.int .i64 (hexI c.toNat)) := by
  refine PureF.intro go10 Try.func10 rfl rfl fun w0 hp => ?_
  refine K_seq ?_
  refine K_region ?_
  refine W_assign rfl rfl ?_
  refine W_nil ?_
  refine N_then_k ?_
  refine K_seq ?_
  refine K_region ?_
  refine W_assign rfl rfl ?_
  refine W_nil ?_
  refine N_then_k ?_
  refine K_seq ?_
  refine K_region ?_
  refine W_assign rfl rfl ?_
  refine W_nil ?_
  refine N_then_k ?_
  refine K_seq ?_
  refine K_seq ?_
  refine K_region ?_
  refine W_assign rfl rfl ?_
  refine W_nil ?_
  refine N_then_k ?_
  refine K_block ?_
  refine K_loop (σ := Nat) [2, 5, 6, 7, 8, 9, 10, 11, 12, 13, 14, 15, 16, 17, 18, 19, 20, 21, 22]
      (fun k => [(5, .int .i64 k)])
      (fun k w => Hp w0 [] [] w ∧ k ≤ 16 ∧ ∀ j, j < k → (hexD1.getD j 0).toNat ≠ c.toNat ∧ (hexD2.getD j 0).toNat ≠ c.toNat)
      (fun k => 16 - k) (0) ?_ ?_ ?_
  · repeat' (first | exact sub_lst_nil (sub_nil _) | refine sub_lst rfl ?_ | (refine sub_lst_eq rfl ?_ ?_; · first | rfl | (simp; done) | (congr 1; omega)))
  · exact ⟨hp, Nat.zero_le _, fun j hj => by omega⟩
  · intro k w hJ
    clear hp
    obtain ⟨hp, hle, ha⟩ := hJ
    rcases Nat.lt_or_ge k (16) with hlt | hge
    all_goals (
     refine K_seq ?_
     refine K_seq ?_
     refine K_region ?_
     refine W_move rfl rfl ?_
     first
       | (refine W_lss_t rfl rfl ?_ rfl ?_; (focus (omega)))
       | (refine W_lss_f rfl rfl ?_ rfl ?_; (focus (omega)))
       | (refine W_lss rfl rfl rfl ?_)
     refine W_nil ?_
     refine N_then_k ?_
     first
       | refine K_cond_d rfl (fun hc1 => ?_) (fun hc1 => ?_)
       | refine K_cond_n rfl (fun hc1 => ?_) (fun hc1 => ?_)
       | refine K_cond_nb rfl (fun hc1 => ?_) (fun hc1 => ?_)
       | refine K_cond_t rfl (fun hc1 => ?_) (fun hc1 => ?_)
     · try (exfalso; first | contradiction | omega)
       all_goals (
        refine K_skip ?_
        refine N_then_k ?_
        refine K_seq ?_
        refine K_block ?_
        refine K_seq ?_
        refine K_region ?_
        refine W_move rfl rfl ?_
        refine W_move rfl rfl ?_
        refine W_index_s Try.underlying9 (a := hexD1) rfl rfl (by omega) (idx_getD hlt) rfl ?_
        refine W_move rfl rfl ?_
        first
          | (refine W_eql_t rfl rfl ?_ rfl ?_; (focus (omega)))
          | (refine W_eql_f rfl rfl ?_ rfl ?_; (focus (omega)))
          | (refine W_eql rfl rfl rfl ?_)
        refine W_move rfl rfl ?_
        first
          | refine W_guard_lit_t rfl ?_
          | refine W_guard_lit_f rfl ?_
          | refine W_guard_lit_u rfl ?_
          | refine W_guard_split_d rfl rfl rfl (fun hg2 => ?_) (fun hg2 => ?_)
          | refine W_guard_split_n rfl rfl rfl (fun hg2 => ?_) (fun hg2 => ?_)
          | refine W_guard_split_nb rfl rfl rfl (fun hg2 => ?_) (fun hg2 => ?_)
          | refine W_guard_split rfl rfl rfl (fun hg2 => ?_) (fun hg2 => ?_)
        all_goals try (exfalso; first | contradiction | omega)
        all_goals (
         first
           | (iterate 5 refine W_guard_no rfl rfl rfl ?_)
           | (iterate 5 refine W_guard_un rfl rfl ?_)
           | (refine W_guard_yes rfl ?_
              refine W_move rfl rfl ?_
              refine W_guard_yes rfl ?_
              refine W_move rfl rfl ?_
              refine W_guard_yes rfl ?_
              refine W_index_s Try.underlying9 (a := hexD2) rfl rfl (by omega) (idx_getD hlt) rfl ?_
              refine W_guard_yes rfl ?_
              refine W_move rfl rfl ?_
              refine W_guard_yes rfl ?_
              first
                | (refine W_eql_t rfl rfl ?_ rfl ?_; (focus (omega)))
                | (refine W_eql_f rfl rfl ?_ rfl ?_; (focus (omega)))
                | (refine W_eql rfl rfl rfl ?_))
         first
           | (refine W_pick_t rfl rfl rfl ?_)
           | (refine W_pick_f rfl rfl rfl ?_)
           | (refine W_pick_b rfl rfl rfl rfl ?_)
         refine W_nil ?_
         refine N_then_k ?_
         first
           | refine K_cond_d rfl (fun hc3 => ?_) (fun hc3 => ?_)
           | refine K_cond_n rfl (fun hc3 => ?_) (fun hc3 => ?_)
           | refine K_cond_nb rfl (fun hc3 => ?_) (fun hc3 => ?_)
           | refine K_cond_t rfl (fun hc3 => ?_) (fun hc3 => ?_)
         · try (exfalso; first | contradiction | omega)
           all_goals (
            refine K_seq ?_
            refine K_region ?_
            refine W_move rfl rfl ?_
            refine W_assign rfl rfl ?_
            refine W_nil ?_
            refine N_then_k ?_
            refine K_ret ?_
            refine N_block_ret ?_
            refine N_then_ret ?_
            refine N_then_ret ?_
            refine N_block_ret ?_
            refine N_then_ret ?_
            refine N_done1 (.inr rfl) rfl rfl ?_
            refine ⟨_, rfl, congrArg (Value.int .i64) ?_, hp.nil⟩
            first
              | (rw [hex_none fun j hj => ha j (by omega)])
              | (have hh := hex_found k (by omega)
                 simp only [Int.toNat_natCast] at *
                 first | (rw [← hh.1]; congr 1; omega) | (rw [← hh.2]; congr 1; omega)))
         · try (exfalso; first | contradiction | omega)
           all_goals (
            refine K_skip ?_
            refine N_block_normal ?_
            refine N_then_k ?_
            refine K_region ?_
            refine W_move rfl rfl ?_
            first
              | (refine W_add rfl rfl (wr_i64 ?_) rfl ?_; (focus (omega)))
              | (refine W_add rfl rfl rfl rfl ?_)
            refine W_assign rfl rfl ?_
            refine W_nil ?_
            refine N_again (k + 1) (sub_end ?_ ?_) ?_ ?_
            · repeat' (first | exact sub_lst_nil (sub_nil _) | refine sub_lst rfl ?_ | (refine sub_lst_eq rfl ?_ ?_; · first | rfl | (simp; done) | (congr 1; omega)))
            · repeat' (first | exact sub_refl _ | exact sub_strip _ _ | refine sub_s_cons rfl ?_ | refine sub_s_lst rfl ?_ | refine sub_s_strip rfl ?_)
            · refine ⟨hp, hlt, ?_⟩
              intro j hj
              rcases Nat.lt_or_ge j k with h | h
              · exact ha j h
              · obtain rfl : j = k := by omega
                simp only [Int.toNat_natCast] at *
                constructor <;> omega
            · omega)))
     · try (exfalso; first | contradiction | omega)
       all_goals (
        refine K_exit ?_
        refine N_then_exit ?_
        refine N_then_exit ?_
        refine N_block_exit ?_
        refine N_then_k ?_
        refine K_seq ?_
        refine K_region ?_
        refine W_assign rfl rfl ?_
        refine W_nil ?_
        refine N_then_k ?_
        refine K_ret ?_
        refine N_done1 (.inr rfl) rfl rfl ?_
        refine ⟨_, rfl, congrArg (Value.int .i64) ?_, hp.nil⟩
        first
          | (rw [hex_none fun j hj => ha j (by omega)])
          | (have hh := hex_found k (by omega)
             simp only [Int.toNat_natCast] at *
             first | (rw [← hh.1]; congr 1; omega) | (rw [← hh.2]; congr 1; omega))))

theorem rlower_spec (s : List UInt8) (hl : s.length ≤ 1000000) : PureF Try.prog 23 [.string ⟨s.toArray⟩] (.string ⟨(lower s).toArray⟩) := by
  refine PureF.intro go23 Try.func23 rfl rfl fun w0 hp => ?_
  refine K_seq ?_
  refine K_region ?_
  refine W_assign rfl rfl ?_
  refine W_nil ?_
  refine N_then_k ?_
  refine K_seq ?_
  refine K_region ?_
  refine W_assign rfl rfl ?_
  refine W_nil ?_
  refine N_then_k ?_
  refine K_seq ?_
  refine K_seq ?_
  refine K_region ?_
  refine W_assign rfl rfl ?_
  refine W_nil ?_
  refine N_then_k ?_
  refine K_block ?_
  refine K_loop (σ := Nat × Value × Heap) [3, 4, 5, 6, 7, 8, 9, 10, 11, 12, 13, 14, 15, 16, 17, 18, 19, 20, 21, 22, 23, 24, 25, 26]
      (fun s => [(4, .int .i64 s.1), (3, s.2.1)])
      (fun q w => OS 5 1 q.2.1 q.1 (bytesV (lower (s.take q.1))) q.2.2 ∧ Hp w0 [] q.2.2 w ∧ q.1 ≤ s.length)
      (fun q => s.length - q.1) ((0, .slice none 0 0, [])) ?_ ?_ ?_
  · repeat' (first | exact sub_lst_nil (sub_nil _) | refine sub_lst rfl ?_ | (refine sub_lst_eq rfl ?_ ?_; · first | rfl | (simp; done) | (congr 1; omega)))
  · exact ⟨OS.nil, hp, Nat.zero_le _⟩
  · intro ⟨k, v, Hs⟩ w hJ
    clear hp
    obtain ⟨hos, hp, hle⟩ := hJ
    simp only at hos hp hle
    obtain ⟨Av, cv, rfl⟩ := hos.form
    rcases Nat.lt_or_ge k s.length with hlt | hge
    all_goals (
     refine K_seq ?_
     refine K_seq ?_
     refine K_region ?_
     refine W_move rfl rfl ?_
     refine W_move rfl rfl ?_
     refine W_len_s Try.underlying9 rfl rfl ?_
     first
       | (refine W_lss_t rfl rfl ?_ rfl ?_; (focus (omega)))
       | (refine W_lss_f rfl rfl ?_ rfl ?_; (focus (omega)))
       | (refine W_lss rfl rfl rfl ?_)
     refine W_nil ?_
     refine N_then_k ?_
     first
       | refine K_cond_d rfl (fun hc1 => ?_) (fun hc1 => ?_)
       | refine K_cond_n rfl (fun hc1 => ?_) (fun hc1 => ?_)
       | refine K_cond_nb rfl (fun hc1 => ?_) (fun hc1 => ?_)
       | refine K_cond_t rfl (fun hc1 => ?_) (fun hc1 => ?_)
     · try (exfalso; first | contradiction | omega)
       all_goals (
        refine K_skip ?_
        refine N_then_k ?_
        refine K_seq ?_
        refine K_block ?_
        refine K_seq ?_
        refine K_region ?_
        obtain ⟨c, hc⟩ : ∃ c, s[k]? = some c := ⟨_, List.getElem?_eq_getElem hlt⟩
        have hu := c.toNat_lt
        have hlv := lowerC_val c
        refine W_move rfl rfl ?_
        refine W_move rfl rfl ?_
        refine W_index_s Try.underlying9 rfl rfl ?_ (by first | assumption | exact rfl | exact idx_getD (by first | omega | (simp; omega))) rfl ?_
        (focus (omega))
        refine W_assign rfl rfl ?_
        refine W_nil ?_
        refine N_then_k ?_
        refine K_mid (σ := Unit) [5, 15, 16, 17, 18, 19, 20, 21, 22]
            (fun _ => [(5, .int .u8 ((lowerC c).toNat : Int))])
            (fun _ w => Hp w0 [] Hs w) ?_ ?_
        · refine K_seq ?_
          refine K_region ?_
          refine W_move rfl rfl ?_
          first
            | (refine W_geq_t rfl rfl ?_ rfl ?_; (focus (omega)))
            | (refine W_geq_f rfl rfl ?_ rfl ?_; (focus (omega)))
            | (refine W_geq rfl rfl rfl ?_)
          refine W_move rfl rfl ?_
          first
            | refine W_guard_lit_t rfl ?_
            | refine W_guard_lit_f rfl ?_
            | refine W_guard_lit_u rfl ?_
            | refine W_guard_split_d rfl rfl rfl (fun hg2 => ?_) (fun hg2 => ?_)
            | refine W_guard_split_n rfl rfl rfl (fun hg2 => ?_) (fun hg2 => ?_)
            | refine W_guard_split_nb rfl rfl rfl (fun hg2 => ?_) (fun hg2 => ?_)
            | refine W_guard_split rfl rfl rfl (fun hg2 => ?_) (fun hg2 => ?_)
          all_goals try (exfalso; first | contradiction | omega)
          all_goals (
           first
             | (iterate 2 refine W_guard_no rfl rfl rfl ?_)
             | (iterate 2 refine W_guard_un rfl rfl ?_)
             | (refine W_guard_yes rfl ?_
                refine W_move rfl rfl ?_
                refine W_guard_yes rfl ?_
                first
                  | (refine W_leq_t rfl rfl ?_ rfl ?_; (focus (omega)))
                  | (refine W_leq_f rfl rfl ?_ rfl ?_; (focus (omega)))
                  | (refine W_leq rfl rfl rfl ?_))
           first
             | (refine W_pick_t rfl rfl rfl ?_)
             | (refine W_pick_f rfl rfl rfl ?_)
             | (refine W_pick_b rfl rfl rfl rfl ?_)
           refine W_nil ?_
           refine N_then_k ?_
           first
             | refine K_cond_d rfl (fun hc3 => ?_) (fun hc3 => ?_)
             | refine K_cond_n rfl (fun hc3 => ?_) (fun hc3 => ?_)
             | refine K_cond_nb rfl (fun hc3 => ?_) (fun hc3 => ?_)
             | refine K_cond_t rfl (fun hc3 => ?_) (fun hc3 => ?_)
           · try (exfalso; first | contradiction | omega)
             all_goals (
              refine K_region ?_
              refine W_move rfl rfl ?_
              first
                | (refine W_add rfl rfl (wr_u8 ?_) rfl ?_; (focus (omega)))
                | (refine W_add rfl rfl rfl rfl ?_)
              refine W_assign rfl rfl ?_
              refine W_nil ?_
              refine N_mid (()) (sub_end ?_ ?_) ?_
              · repeat' (first | exact sub_lst_nil (sub_nil _) | refine sub_lst rfl ?_ | (refine sub_lst_eq rfl ?_ ?_; · first | rfl | (rw [hlv]; first | rw [if_pos (by omega)] | rw [if_neg (by omega)]) | (simp; done) | (congr 1; omega)))
              · repeat' (first | exact sub_refl _ | exact sub_strip _ _ | refine sub_s_cons rfl ?_ | refine sub_s_lst rfl ?_ | refine sub_s_strip rfl ?_)
              · exact hp)
           · try (exfalso; first | contradiction | omega)
             all_goals (
              refine K_skip ?_
              refine N_mid (()) (sub_end ?_ ?_) ?_
              · repeat' (first | exact sub_lst_nil (sub_nil _) | refine sub_lst rfl ?_ | (refine sub_lst_eq rfl ?_ ?_; · first | rfl | (rw [hlv]; first | rw [if_pos (by omega)] | rw [if_neg (by omega)]) | (simp; done) | (congr 1; omega)))
              · repeat' (first | exact sub_refl _ | exact sub_strip _ _ | refine sub_s_cons rfl ?_ | refine sub_s_lst rfl ?_ | refine sub_s_strip rfl ?_)
              · exact hp))
        · intro _ w hJ
          have hp := hJ
          refine K_region ?_
          refine W_move rfl rfl ?_
          refine W_move rfl rfl ?_
          refine W_bslice1 hp Try.underlying36 sz5 zv5 rfl  rfl  (fun v0 => [v0]) rfl rfl rfl ?_
          clear hp; intro b25 w hp
          try simp only [List.append_nil] at hp
          rw [← List.append_nil Hs] at hp
          refine W_append_sl (A := [_]) (B := []) _ rfl hp rfl Try.underlying36 sz5 pb5 zv5 rfl rfl rfl rfl hos (Rd.own hp (by first | exact List.mem_cons_self | exact .tail _ (.head _) | exact .tail _ (.tail _ (.head _)) | exact .tail _ (.tail _ (.tail _ (.head _))) | exact .tail _ (.tail _ (.tail _ (.tail _ (.head _)))) | exact .tail _ (.tail _ (.tail _ (.tail _ (.tail _ (.head _)))))) (List.prefix_refl _)) ?_ ?_ ?_ ?_ rfl ?_
          · rfl
          · simp [Value.oneCell']
          · (simp only [maxLen]; omega)
          · omega
          clear hp; intro va26 Hs w hos hp
          obtain ⟨Aa26, ca26, rfl⟩ := hos.form
          refine W_assign rfl rfl ?_
          refine W_nil ?_
          refine N_block_normal ?_
          refine N_then_k ?_
          refine K_region ?_
          refine W_move rfl rfl ?_
          first
            | (refine W_add rfl rfl (wr_i64 ?_) rfl ?_; (focus (omega)))
            | (refine W_add rfl rfl rfl rfl ?_)
          refine W_assign rfl rfl ?_
          refine W_nil ?_
          refine N_again ((k + 1, .slice Aa26 (k + 1) ca26, Hs)) (sub_end ?_ ?_) ?_ ?_
          · repeat' (first | exact sub_lst_nil (sub_nil _) | refine sub_lst rfl ?_ | (refine sub_lst_eq rfl ?_ ?_; · first | rfl | (simp; done) | (congr 1; omega)))
          · repeat' (first | exact sub_refl _ | exact sub_strip _ _ | refine sub_s_cons rfl ?_ | refine sub_s_lst rfl ?_ | refine sub_s_strip rfl ?_)
          · refine ⟨?_, ?_, hlt⟩
            · have e : bytesV (lower (s.take (k + 1))) = bytesV (lower (s.take k)) ++ [.int .u8 ((lowerC c).toNat : Int)] := by rw [List.take_add_one, hc]; simp [bytesV, lower]
              show OS _ _ _ _ (bytesV (lower (s.take (k + 1)))) _
              rw [e]
              exact hos
            · simpa using hp.drop (List.sublist_cons_self _ _)
          · show _ < _; simp only; omega)
     · try (exfalso; first | contradiction | omega)
       all_goals (
        refine K_exit ?_
        refine N_then_exit ?_
        refine N_then_exit ?_
        refine N_block_exit ?_
        refine N_then_k ?_
        refine K_seq ?_
        refine K_region ?_
        refine W_move rfl rfl ?_
        obtain rfl : k = s.length := by omega
        rw [List.take_length] at hos
        refine W_conv_bs (a := lower s) Try.underlying36 Try.underlying5 Try.underlying9 rfl (hos.rd (A := []) (B := []) (by simpa using hp)) (by simp [lower]) rfl ?_
        refine W_assign rfl rfl ?_
        refine W_nil ?_
        refine N_then_k ?_
        refine K_ret ?_
        refine N_done1 (.inr rfl) rfl rfl ?_
        exact ⟨_, rfl, rfl, by first | exact hp.nil | exact (hp.drop (List.nil_sublist _))⟩))

theorem at_or (s : List UInt8) (k : Nat) : s.length ≤ k ∨ ∃ c, s[k]? = some c ∧ k < s.length := by
  rcases Nat.lt_or_ge k s.length with h | h
  · exact .inr ⟨_, List.getElem?_eq_getElem h, h⟩
  · exact .inl h
theorem cut_or {s : List UInt8} {f g : Nat} (h : g ≤ s.length) : g ≤ f ∨ ∃ c, s[((g : Int) - 1).toNat]? = some c ∧ f < g := by
  rcases Nat.lt_or_ge f g with h1 | h1
  · exact .inr ⟨_, List.getElem?_eq_getElem (by omega), h1⟩
  · exact .inl h1
theorem drop_at {s : List UInt8} {k : Nat} {c : UInt8} (h : s[k]? = some c) : s.drop k = c :: s.drop (k + 1) := by
  have hk := (List.getElem?_eq_some_iff.1 h).1
  rw [List.drop_eq_getElem_cons hk, (List.getElem?_eq_some_iff.1 h).2]
theorem drop_trim {s : List UInt8} {k : Nat} {c : UInt8} (h : s[k]? = some c) (hb : BlankP c.toNat) : trimL (s.drop k) = trimL (s.drop (k + 1)) := by
  rw [drop_at h, trimL_cons_blank (decide_eq_true hb)]
theorem trim_stop {s : List UInt8} {k : Nat} (ha : trimL s = trimL (s.drop k)) (h : s.length ≤ k ∨ ∃ c, s[k]? = some c ∧ ¬ BlankP c.toNat) : trimL s = s.drop k := by
  rw [ha]
  rcases h with h | ⟨c, h, hb⟩
  · rw [List.drop_of_length_le h]; rfl
  · rw [drop_at h, trimL_cons (decide_eq_false hb)]
theorem take_at {s : List UInt8} {g : Nat} {c : UInt8} (h : s[((g : Int) - 1).toNat]? = some c) (hg : 0 < g) : s.take g = s.take (g - 1) ++ [c] := by
  have e : ((g : Int) - 1).toNat = g - 1 := by omega
  rw [e] at h
  obtain ⟨q, rfl⟩ : ∃ q, g = q + 1 := ⟨g - 1, by omega⟩
  simp only [Nat.add_sub_cancel] at h ⊢
  rw [List.take_add_one, h]; rfl
theorem cut_at {s : List UInt8} {f g : Nat} {c : UInt8} (h : s[((g : Int) - 1).toNat]? = some c) (hg : f < g) : (s.take g).drop f = (s.take (g - 1)).drop f ++ [c] := by
  have hk := (List.getElem?_eq_some_iff.1 h).1
  rw [take_at h (by omega), List.drop_append_of_le_length (by simp; omega)]
theorem cut_trim {s : List UInt8} {f g : Nat} {c : UInt8} (h : s[((g : Int) - 1).toNat]? = some c) (hg : f < g) (hb : BlankP c.toNat) : trimR ((s.take (g - 1)).drop f) = trimR ((s.take g).drop f) := by
  rw [cut_at h hg, trimR_snoc_blank (decide_eq_true hb)]
theorem slice_trim {s : List UInt8} {f g : Nat} (h1 : trimL s = s.drop f) (h2 : f ≤ s.length) (h3 : f ≤ g) (h4 : g ≤ s.length) (h5 : trimR ((s.take g).drop f) = trimR (s.drop f)) (h6 : g ≤ f ∨ ∃ c, s[((g : Int) - 1).toNat]? = some c ∧ ¬ BlankP c.toNat) :
    (s.drop (f : Int).toNat).take ((g : Int).toNat - (f : Int).toNat) = trim s := by
  simp only [Int.toNat_natCast]
  rw [← List.drop_take]
  unfold trim
  rw [h1, ← h5]
  rcases Nat.lt_or_ge f g with h | h
  · obtain ⟨c, hc, hb⟩ := h6.resolve_left (by omega)
    rw [cut_at hc h, trimR_snoc (decide_eq_false hb)]
  · rw [List.drop_of_length_le (by simp; omega)]; rfl

theorem rtrim_spec (s : List UInt8) (hl : s.length ≤ 9000000000000000000) : PureF Try.prog 25 [.string ⟨s.toArray⟩] (.string ⟨(trim s).toArray⟩) := by
  refine PureF.intro go25 Try.func25 rfl rfl fun w0 hp => ?_
  refine K_seq ?_
  refine K_region ?_
  refine W_assign rfl rfl ?_
  refine W_nil ?_
  refine N_then_k ?_
  refine K_seq ?_
  refine K_region ?_
  refine W_assign rfl rfl ?_
  refine W_nil ?_
  refine N_then_k ?_
  refine K_mid (σ := Nat) [3, 5, 6, 7, 8, 9, 10, 11, 12, 13, 14, 15, 16, 17, 18, 19, 20, 21, 22]
      (fun f => [(3, .int .i64 f)])
      (fun f w => Hp w0 [] [] w ∧ f ≤ s.length ∧ trimL s = s.drop f) ?_ ?_
  · refine K_block ?_
    refine K_loop (σ := Nat) [3, 5, 6, 7, 8, 9, 10, 11, 12, 13, 14, 15, 16, 17, 18, 19, 20, 21, 22]
        (fun k => [(3, .int .i64 k)])
        (fun k w => Hp w0 [] [] w ∧ k ≤ s.length ∧ trimL s = trimL (s.drop k))
        (fun k => s.length - k) (0) ?_ ?_ ?_
    · repeat' (first | exact sub_lst_nil (sub_nil _) | refine sub_lst rfl ?_ | (refine sub_lst_eq rfl ?_ ?_; · first | rfl | (simp; done) | (congr 1; omega)))
    · exact ⟨hp, Nat.zero_le _, rfl⟩
    · intro k w hJ
      clear hp
      obtain ⟨hp, hle, ha⟩ := hJ
      rcases at_or s k with hge | ⟨c, hc, hlt⟩
      all_goals (
       refine K_seq ?_
       refine K_seq ?_
       refine K_region ?_
       refine W_move rfl rfl ?_
       refine W_move rfl rfl ?_
       refine W_len_s Try.underlying9 rfl rfl ?_
       first
         | (refine W_lss_t rfl rfl ?_ rfl ?_; (focus (omega)))
         | (refine W_lss_f rfl rfl ?_ rfl ?_; (focus (omega)))
         | (refine W_lss rfl rfl rfl ?_)
       refine W_move rfl rfl ?_
       first
         | refine W_guard_lit_t rfl ?_
         | refine W_guard_lit_f rfl ?_
         | refine W_guard_lit_u rfl ?_
         | refine W_guard_split_d rfl rfl rfl (fun hg1 => ?_) (fun hg1 => ?_)
         | refine W_guard_split_n rfl rfl rfl (fun hg1 => ?_) (fun hg1 => ?_)
         | refine W_guard_split_nb rfl rfl rfl (fun hg1 => ?_) (fun hg1 => ?_)
         | refine W_guard_split rfl rfl rfl (fun hg1 => ?_) (fun hg1 => ?_)
       all_goals try (exfalso; first | contradiction | omega)
       all_goals (
        first
          | (iterate 5 refine W_guard_no rfl rfl rfl ?_)
          | (iterate 5 refine W_guard_un rfl rfl ?_)
          | (refine W_guard_yes rfl ?_
             refine W_move rfl rfl ?_
             refine W_guard_yes rfl ?_
             refine W_move rfl rfl ?_
             refine W_guard_yes rfl ?_
             refine W_index_s Try.underlying9 rfl rfl ?_ (by first | assumption | exact rfl | exact idx_getD (by first | omega | (simp; omega))) rfl ?_
             (focus (omega))
             refine W_guard_yes rfl ?_
             first
               | (refine W_eql_t rfl rfl ?_ rfl ?_; (focus (omega)))
               | (refine W_eql_f rfl rfl ?_ rfl ?_; (focus (omega)))
               | (refine W_eql rfl rfl rfl ?_)
             refine W_guard_yes rfl ?_
             refine W_move rfl rfl ?_)
        first
          | refine W_guard_lit_t rfl ?_
          | refine W_guard_lit_f rfl ?_
          | refine W_guard_lit_u rfl ?_
          | refine W_guard_split_d rfl rfl rfl (fun hg2 => ?_) (fun hg2 => ?_)
          | refine W_guard_split_n rfl rfl rfl (fun hg2 => ?_) (fun hg2 => ?_)
          | refine W_guard_split_nb rfl rfl rfl (fun hg2 => ?_) (fun hg2 => ?_)
          | refine W_guard_split rfl rfl rfl (fun hg2 => ?_) (fun hg2 => ?_)
        all_goals try (exfalso; first | contradiction | omega)
        all_goals (
         first
           | (iterate 4 refine W_guard_no rfl rfl rfl ?_)
           | (iterate 4 refine W_guard_un rfl rfl ?_)
           | (refine W_guard_yes rfl ?_
              refine W_move rfl rfl ?_
              refine W_guard_yes rfl ?_
              refine W_move rfl rfl ?_
              refine W_guard_yes rfl ?_
              refine W_index_s Try.underlying9 rfl rfl ?_ (by first | assumption | exact rfl | exact idx_getD (by first | omega | (simp; omega))) rfl ?_
              (focus (omega))
              refine W_guard_yes rfl ?_
              first
                | (refine W_eql_t rfl rfl ?_ rfl ?_; (focus (omega)))
                | (refine W_eql_f rfl rfl ?_ rfl ?_; (focus (omega)))
                | (refine W_eql rfl rfl rfl ?_))
         first
           | (refine W_guard_no rfl rfl rfl ?_)
           | (refine W_guard_un rfl rfl ?_)
           | (refine W_guard_yes rfl ?_
              first
                | (refine W_pick_t rfl rfl rfl ?_)
                | (refine W_pick_f rfl rfl rfl ?_)
                | (refine W_pick_b rfl rfl rfl rfl ?_))
         first
           | (refine W_pick_t rfl rfl rfl ?_)
           | (refine W_pick_f rfl rfl rfl ?_)
           | (refine W_pick_b rfl rfl rfl rfl ?_)
         refine W_nil ?_
         refine N_then_k ?_
         first
           | refine K_cond_d rfl (fun hc3 => ?_) (fun hc3 => ?_)
           | refine K_cond_n rfl (fun hc3 => ?_) (fun hc3 => ?_)
           | refine K_cond_nb rfl (fun hc3 => ?_) (fun hc3 => ?_)
           | refine K_cond_t rfl (fun hc3 => ?_) (fun hc3 => ?_)
         · try (exfalso; first | contradiction | omega)
           all_goals (
            refine K_skip ?_
            refine N_then_k ?_
            refine K_block ?_
            refine K_region ?_
            refine W_move rfl rfl ?_
            first
              | (refine W_add rfl rfl (wr_i64 ?_) rfl ?_; (focus (omega)))
              | (refine W_add rfl rfl rfl rfl ?_)
            refine W_assign rfl rfl ?_
            refine W_nil ?_
            refine N_block_normal ?_
            refine N_again (k + 1) (sub_end ?_ ?_) ?_ ?_
            · repeat' (first | exact sub_lst_nil (sub_nil _) | refine sub_lst rfl ?_ | (refine sub_lst_eq rfl ?_ ?_; · first | rfl | (simp; done) | (congr 1; omega)))
            · repeat' (first | exact sub_refl _ | exact sub_strip _ _ | refine sub_s_cons rfl ?_ | refine sub_s_lst rfl ?_ | refine sub_s_strip rfl ?_)
            · refine ⟨hp, hlt, ?_⟩
              rw [ha, drop_trim hc (by omega)]
            · omega)
         · try (exfalso; first | contradiction | omega)
           all_goals (
            refine K_exit ?_
            refine N_then_exit ?_
            refine N_then_exit ?_
            refine N_block_exit ?_
            refine N_mid (k) (sub_end ?_ ?_) ?_
            · repeat' (first | exact sub_lst_nil (sub_nil _) | refine sub_lst rfl ?_ | (refine sub_lst_eq rfl ?_ ?_; · first | rfl | (simp; done) | (congr 1; omega)))
            · repeat' (first | exact sub_refl _ | exact sub_strip _ _ | refine sub_s_cons rfl ?_ | refine sub_s_lst rfl ?_ | refine sub_s_strip rfl ?_)
            · refine ⟨hp, hle, ?_⟩
              first
                | exact trim_stop (k := k) ha (.inl (by omega))
                | exact trim_stop (k := k) ha (.inr ⟨c, hc, by omega⟩)))))
  · intro f w hJ
    clear hp
    obtain ⟨hp, hle, hf1⟩ := hJ
    refine K_seq ?_
    refine K_region ?_
    refine W_move rfl rfl ?_
    refine W_len_s Try.underlying9 rfl rfl ?_
    refine W_assign rfl rfl ?_
    refine W_nil ?_
    refine N_then_k ?_
    refine K_mid (σ := Nat) [4, 25, 26, 27, 28, 29, 30, 31, 32, 33, 34, 35, 36, 37, 38, 39, 40, 41, 42, 43]
        (fun g => [(4, .int .i64 g)])
        (fun g w => Hp w0 [] [] w ∧ g ≤ s.length ∧ f ≤ g ∧ trimR ((s.take g).drop f) = trimR (s.drop f) ∧ (g ≤ f ∨ ∃ c, s[((g:Int) - 1).toNat]? = some c ∧ ¬ BlankP c.toNat)) ?_ ?_
    · refine K_block ?_
      refine K_loop (σ := Nat) [4, 25, 26, 27, 28, 29, 30, 31, 32, 33, 34, 35, 36, 37, 38, 39, 40, 41, 42, 43]
          (fun g => [(4, .int .i64 g)])
          (fun g w => Hp w0 [] [] w ∧ g ≤ s.length ∧ f ≤ g ∧ trimR ((s.take g).drop f) = trimR (s.drop f))
          (fun g => g) (s.length) ?_ ?_ ?_
      · repeat' (first | exact sub_lst_nil (sub_nil _) | refine sub_lst rfl ?_ | (refine sub_lst_eq rfl ?_ ?_; · first | rfl | (simp; done) | (congr 1; omega)))
      · exact ⟨hp, Nat.le_refl _, hle, by rw [List.take_length]⟩
      · intro g w hJ
        clear hp
        obtain ⟨hp, hle2, hle3, hf2⟩ := hJ
        rcases cut_or hle2 (f := f) with hge | ⟨c, hc, hlt⟩
        all_goals (
         refine K_seq ?_
         refine K_seq ?_
         refine K_region ?_
         refine W_move rfl rfl ?_
         refine W_move rfl rfl ?_
         first
           | (refine W_gtr_t rfl rfl ?_ rfl ?_; (focus (omega)))
           | (refine W_gtr_f rfl rfl ?_ rfl ?_; (focus (omega)))
           | (refine W_gtr rfl rfl rfl ?_)
         refine W_move rfl rfl ?_
         first
           | refine W_guard_lit_t rfl ?_
           | refine W_guard_lit_f rfl ?_
           | refine W_guard_lit_u rfl ?_
           | refine W_guard_split_d rfl rfl rfl (fun hg4 => ?_) (fun hg4 => ?_)
           | refine W_guard_split_n rfl rfl rfl (fun hg4 => ?_) (fun hg4 => ?_)
           | refine W_guard_split_nb rfl rfl rfl (fun hg4 => ?_) (fun hg4 => ?_)
           | refine W_guard_split rfl rfl rfl (fun hg4 => ?_) (fun hg4 => ?_)
         all_goals try (exfalso; first | contradiction | omega)
         all_goals (
          first
            | (iterate 6 refine W_guard_no rfl rfl rfl ?_)
            | (iterate 6 refine W_guard_un rfl rfl ?_)
            | (refine W_guard_yes rfl ?_
               refine W_move rfl rfl ?_
               refine W_guard_yes rfl ?_
               refine W_move rfl rfl ?_
               refine W_guard_yes rfl ?_
               first
                 | (refine W_sub rfl rfl (wr_i64 ?_) rfl ?_; (focus (omega)))
                 | (refine W_sub rfl rfl rfl rfl ?_)
               refine W_guard_yes rfl ?_
               refine W_index_s Try.underlying9 rfl rfl ?_ (by first | assumption | exact rfl | exact idx_getD (by first | omega | (simp; omega))) rfl ?_
               (focus (omega))
               refine W_guard_yes rfl ?_
               first
                 | (refine W_eql_t rfl rfl ?_ rfl ?_; (focus (omega)))
                 | (refine W_eql_f rfl rfl ?_ rfl ?_; (focus (omega)))
                 | (refine W_eql rfl rfl rfl ?_)
               refine W_guard_yes rfl ?_
               refine W_move rfl rfl ?_)
          first
            | refine W_guard_lit_t rfl ?_
            | refine W_guard_lit_f rfl ?_
            | refine W_guard_lit_u rfl ?_
            | refine W_guard_split_d rfl rfl rfl (fun hg5 => ?_) (fun hg5 => ?_)
            | refine W_guard_split_n rfl rfl rfl (fun hg5 => ?_) (fun hg5 => ?_)
            | refine W_guard_split_nb rfl rfl rfl (fun hg5 => ?_) (fun hg5 => ?_)
            | refine W_guard_split rfl rfl rfl (fun hg5 => ?_) (fun hg5 => ?_)
          all_goals try (exfalso; first | contradiction | omega)
          all_goals (
           first
             | (iterate 5 refine W_guard_no rfl rfl rfl ?_)
             | (iterate 5 refine W_guard_un rfl rfl ?_)
             | (refine W_guard_yes rfl ?_
                refine W_move rfl rfl ?_
                refine W_guard_yes rfl ?_
                refine W_move rfl rfl ?_
                refine W_guard_yes rfl ?_
                first
                  | (refine W_sub rfl rfl (wr_i64 ?_) rfl ?_; (focus (omega)))
                  | (refine W_sub rfl rfl rfl rfl ?_)
                refine W_guard_yes rfl ?_
                refine W_index_s Try.underlying9 rfl rfl ?_ (by first | assumption | exact rfl | exact idx_getD (by first | omega | (simp; omega))) rfl ?_
                (focus (omega))
                refine W_guard_yes rfl ?_
                first
                  | (refine W_eql_t rfl rfl ?_ rfl ?_; (focus (omega)))
                  | (refine W_eql_f rfl rfl ?_ rfl ?_; (focus (omega)))
                  | (refine W_eql rfl rfl rfl ?_))
           first
             | (refine W_guard_no rfl rfl rfl ?_)
             | (refine W_guard_un rfl rfl ?_)
             | (refine W_guard_yes rfl ?_
                first
                  | (refine W_pick_t rfl rfl rfl ?_)
                  | (refine W_pick_f rfl rfl rfl ?_)
                  | (refine W_pick_b rfl rfl rfl rfl ?_))
           first
             | (refine W_pick_t rfl rfl rfl ?_)
             | (refine W_pick_f rfl rfl rfl ?_)
             | (refine W_pick_b rfl rfl rfl rfl ?_)
           refine W_nil ?_
           refine N_then_k ?_
           first
             | refine K_cond_d rfl (fun hc6 => ?_) (fun hc6 => ?_)
             | refine K_cond_n rfl (fun hc6 => ?_) (fun hc6 => ?_)
             | refine K_cond_nb rfl (fun hc6 => ?_) (fun hc6 => ?_)
             | refine K_cond_t rfl (fun hc6 => ?_) (fun hc6 => ?_)
           · try (exfalso; first | contradiction | omega)
             all_goals (
              refine K_skip ?_
              refine N_then_k ?_
              refine K_block ?_
              refine K_region ?_
              refine W_move rfl rfl ?_
              first
                | (refine W_sub rfl rfl (wr_i64 ?_) rfl ?_; (focus (omega)))
                | (refine W_sub rfl rfl rfl rfl ?_)
              refine W_assign rfl rfl ?_
              refine W_nil ?_
              refine N_block_normal ?_
              refine N_again (g - 1) (sub_end ?_ ?_) ?_ ?_
              · repeat' (first | exact sub_lst_nil (sub_nil _) | refine sub_lst rfl ?_ | (refine sub_lst_eq rfl ?_ ?_; · first | rfl | (simp; done) | (congr 1; omega)))
              · repeat' (first | exact sub_refl _ | exact sub_strip _ _ | refine sub_s_cons rfl ?_ | refine sub_s_lst rfl ?_ | refine sub_s_strip rfl ?_)
              · refine ⟨hp, by omega, by omega, ?_⟩
                rw [← hf2, cut_trim hc hlt (by omega)]
              · omega)
           · try (exfalso; first | contradiction | omega)
             all_goals (
              refine K_exit ?_
              refine N_then_exit ?_
              refine N_then_exit ?_
              refine N_block_exit ?_
              refine N_mid (g) (sub_end ?_ ?_) ?_
              · repeat' (first | exact sub_lst_nil (sub_nil _) | refine sub_lst rfl ?_ | (refine sub_lst_eq rfl ?_ ?_; · first | rfl | (simp; done) | (congr 1; omega)))
              · repeat' (first | exact sub_refl _ | exact sub_strip _ _ | refine sub_s_cons rfl ?_ | refine sub_s_lst rfl ?_ | refine sub_s_strip rfl ?_)
              · refine ⟨hp, hle2, hle3, hf2, ?_⟩
                first | exact .inl (by omega) | exact .inr ⟨c, hc, by omega⟩))))
    · intro g w hJ
      clear hp
      obtain ⟨hp, hle2, hle3, hf2, hf3⟩ := hJ
      refine K_seq ?_
      refine K_region ?_
      refine W_move rfl rfl ?_
      refine W_move rfl rfl ?_
      refine W_move rfl rfl ?_
      have hsl := slice_trim hf1 hle hle3 hle2 hf2 hf3
      refine W_slice_slh Try.underlying9 rfl rfl rfl ?_ ?_ ?_ rfl ?_
      (focus (first | omega | (simp; omega) | (simp only [List.length_drop, List.length_take, List.length_append]; omega)))
      (focus (first | omega | (simp; omega) | (simp only [List.length_drop, List.length_take, List.length_append]; omega)))
      (focus (first | omega | (simp; omega) | (simp only [List.length_drop, List.length_take, List.length_append]; omega)))
      refine W_assign rfl rfl ?_
      refine W_nil ?_
      refine N_then_k ?_
      refine K_ret ?_
      refine N_done1 (.inr rfl) rfl rfl ?_
      refine ⟨_, rfl, congrArg strV hsl, hp.nil⟩

end Go.Proofs.Ytjkbceclfmjmfaa
