/-
  Packages octet and doorkeeperref02 at this program.
-/
import Derived.Test.YtjmfjdmpbkdceaaDoorSxT
import Derived.Test.YtjmfjdmpbkdceaaDoorSxRow
namespace Go.Proofs.YtjmfjdmpbkdceaaDoor
open Go.Sx Go.RowKit
set_option linter.unusedVariables false
set_option linter.unusedSimpArgs false
set_option maxRecDepth 100000

/-! ### Package octet: what its functions say of a byte's number -/
abbrev LetterP (n : Nat) : Prop := (65 ≤ n ∧ n ≤ 90) ∨ (97 ≤ n ∧ n ≤ 122)
abbrev DigitP (n : Nat) : Prop := 48 ≤ n ∧ n ≤ 57
abbrev AlnumP (n : Nat) : Prop := LetterP n ∨ DigitP n
abbrev TokenP (n : Nat) : Prop := n = 33 ∨ n = 35 ∨ n = 36 ∨ n = 37 ∨ n = 38 ∨ n = 39 ∨ n = 42 ∨ n = 43 ∨ n = 45 ∨ n = 46 ∨ n = 94 ∨ n = 95 ∨ n = 96 ∨ n = 124 ∨ n = 126 ∨ AlnumP n
abbrev UnresP (n : Nat) : Prop := n = 45 ∨ n = 46 ∨ n = 95 ∨ n = 126 ∨ AlnumP n
abbrev PathP (n : Nat) : Prop := n = 33 ∨ n = 36 ∨ n = 38 ∨ n = 39 ∨ n = 40 ∨ n = 41 ∨ n = 42 ∨ n = 43 ∨ n = 44 ∨ n = 59 ∨ n = 61 ∨ n = 58 ∨ n = 64 ∨ UnresP n
abbrev FieldP (n : Nat) : Prop := n = 9 ∨ (32 ≤ n ∧ n ≤ 126) ∨ 128 ≤ n
abbrev BlankP (n : Nat) : Prop := n = 32 ∨ n = 9
/-- The value of a hexadecimal digit, or -1. -/
def hexI (n : Nat) : Int := if 48 ≤ n ∧ n ≤ 57 then (n : Int) - 48 else if 97 ≤ n ∧ n ≤ 102 then (n : Int) - 87 else if 65 ≤ n ∧ n ≤ 70 then (n : Int) - 55 else -1
theorem hexI_range (n : Nat) : -1 ≤ hexI n ∧ hexI n ≤ 15 := by unfold hexI; (repeat' split) <;> omega
def tokenB (c : UInt8) : Bool := decide (TokenP c.toNat)
def pathB (c : UInt8) : Bool := decide (PathP c.toNat)
def fieldB (c : UInt8) : Bool := decide (FieldP c.toNat)
def unresB (c : UInt8) : Bool := decide (UnresP c.toNat)
def letterB (c : UInt8) : Bool := decide (LetterP c.toNat)
def digitB (c : UInt8) : Bool := decide (DigitP c.toNat)
def blankB (c : UInt8) : Bool := decide (BlankP c.toNat)
def isToken (s : List UInt8) : Bool := !s.isEmpty && s.all tokenB
def lowerC (c : UInt8) : UInt8 := if 65 ≤ c.toNat ∧ c.toNat ≤ 90 then c + 32 else c
def lower (s : List UInt8) : List UInt8 := s.map lowerC
def trimL (s : List UInt8) : List UInt8 := s.dropWhile blankB
def trimR (s : List UInt8) : List UInt8 := (s.reverse.dropWhile blankB).reverse
def trim (s : List UInt8) : List UInt8 := trimR (trimL s)
theorem lowerC_val (c : UInt8) : ((lowerC c).toNat : Int) = if 65 ≤ c.toNat ∧ c.toNat ≤ 90 then (c.toNat : Int) + 32 else c.toNat := by
  unfold lowerC
  split
  · rw [UInt8.toNat_add]; have : (32 : UInt8).toNat = 32 := rfl; omega
  · rfl
theorem all_take {p : UInt8 → Bool} {s : List UInt8} {k : Nat} {c : UInt8} (h : s[k]? = some c) : (s.take (k + 1)).all p = ((s.take k).all p && p c) := by
  have e : s.take (k + 1) = s.take k ++ [c] := by rw [List.take_add_one, h]; rfl
  rw [e, List.all_append]; simp
theorem all_not {p : UInt8 → Bool} {s : List UInt8} {k : Nat} {c : UInt8} (h : s[k]? = some c) (hc : p c = false) : s.all p = false := by
  rw [List.all_eq_false]
  exact ⟨c, List.mem_of_getElem? h, by simp [hc]⟩
theorem trimR_snoc_blank {s : List UInt8} {c : UInt8} (h : blankB c = true) : trimR (s ++ [c]) = trimR s := by simp [trimR, h]
theorem trimR_snoc {s : List UInt8} {c : UInt8} (h : blankB c = false) : trimR (s ++ [c]) = s ++ [c] := by simp [trimR, h]
theorem trimL_cons_blank {s : List UInt8} {c : UInt8} (h : blankB c = true) : trimL (c :: s) = trimL s := by simp [trimL, List.dropWhile_cons, h]
theorem trimL_cons {s : List UInt8} {c : UInt8} (h : blankB c = false) : trimL (c :: s) = c :: s := by simp [trimL, List.dropWhile_cons, h]
theorem snoc_of {s : List UInt8} (h : 0 < s.length) : ∃ (r : List UInt8) (c : UInt8), s = r ++ [c] ∧ s[s.length - 1]? = some c ∧ s.take (s.length - 1) = r := by
  rcases List.eq_nil_or_concat s with rfl | ⟨r, c, rfl⟩
  · simp at h
  · exact ⟨r, c, by simp, by simp, by simp⟩

theorem within_spec (x lo hi : Int) : PureF Tryd.prog 34 [.int .u8 x, .int .u8 lo, .int .u8 hi] (.bool (decide (lo ≤ x ∧ x ≤ hi))) := by
  refine PureF.intro go34 Tryd.func34 rfl rfl fun w0 hp => ?_
  refine K_seq ?_
  refine K_region ?_
  refine W_assign rfl rfl ?_
  refine W_nil ?_
  refine N_then_k ?_
  refine K_seq ?_
  refine K_region ?_
  refine W_move rfl rfl ?_
  refine W_move rfl rfl ?_
  first
    | (refine W_geq_t rfl rfl ?_ rfl ?_; (focus (omega)))
    | (refine W_geq_f rfl rfl ?_ rfl ?_; (focus (omega)))
    | (refine W_geq rfl rfl rfl ?_)
  refine W_move rfl rfl ?_
  first
    | refine W_guard_lit_t rfl ?_
    | refine W_guard_lit_f rfl ?_
    | refine W_guard_lit_u rfl ?_
    | refine W_guard_split_d rfl rfl rfl (fun hg1 => ?_) (fun hg1 => ?_)
    | refine W_guard_split_n rfl rfl rfl (fun hg1 => ?_) (fun hg1 => ?_)
    | refine W_guard_split_nb rfl rfl rfl (fun hg1 => ?_) (fun hg1 => ?_)
    | refine W_guard_split rfl rfl rfl (fun hg1 => ?_) (fun hg1 => ?_)
  all_goals try (exfalso; first | omega | (simp only [Bool.false_eq_true, reduceCtorEq] at hg1; done) | (refine absurd hg1 ?_; with_reducible assumption) | (refine absurd ?_ hg1; with_reducible assumption))
  all_goals (
   first
     | (iterate 3 refine W_guard_no rfl rfl rfl ?_)
     | (iterate 3 refine W_guard_un rfl rfl ?_)
     | (refine W_guard_yes rfl ?_
        refine W_move rfl rfl ?_
        refine W_guard_yes rfl ?_
        refine W_move rfl rfl ?_
        refine W_guard_yes rfl ?_
        first
          | (refine W_leq_t rfl rfl ?_ rfl ?_; (focus (omega)))
          | (refine W_leq_f rfl rfl ?_ rfl ?_; (focus (omega)))
          | (refine W_leq rfl rfl rfl ?_))
   first
     | (refine W_pick_t rfl rfl rfl ?_)
     | (refine W_pick_f rfl rfl rfl ?_)
     | (refine W_pick_b rfl rfl rfl rfl ?_)
   refine W_assign rfl rfl ?_
   refine W_nil ?_
   refine N_then_k ?_
   refine K_ret ?_
   refine N_done1 (.inr rfl) rfl rfl ?_
   refine ⟨_, rfl, congrArg Value.bool ?_, hp.nil⟩
   first
     | rfl
     | (refine Bool.eq_iff_iff.2 ?_; simp only [Bool.not_eq_true', decide_eq_true_eq, decide_eq_false_iff_not]; omega)
     | (refine (decide_eq_true ?_).symm; omega)
     | (refine (decide_eq_false ?_).symm; omega)
     | (refine decide_eq_decide.2 ?_; omega))

theorem letter_spec (c : UInt8) : PureF Tryd.prog 49 [.int .u8 (c.toNat : Int)] (.bool (decide (LetterP c.toNat))) := by
  have hu := c.toNat_lt
  refine PureF.intro go49 Tryd.func49 rfl rfl fun w0 hp => ?_
  refine K_seq ?_
  refine K_region ?_
  refine W_assign rfl rfl ?_
  refine W_nil ?_
  refine N_then_k ?_
  refine K_seq ?_
  refine K_region ?_
  refine W_move rfl rfl ?_
  refine W_pcall hp rfl (within_spec _ _ _) rfl ?_
  clear hp; intro w hp
  refine W_move rfl rfl ?_
  first
    | refine W_guard_lit_t rfl ?_
    | refine W_guard_lit_f rfl ?_
    | refine W_guard_lit_u rfl ?_
    | refine W_guard_split_d rfl rfl rfl (fun hg1 => ?_) (fun hg1 => ?_)
    | refine W_guard_split_n rfl rfl rfl (fun hg1 => ?_) (fun hg1 => ?_)
    | refine W_guard_split_nb rfl rfl rfl (fun hg1 => ?_) (fun hg1 => ?_)
    | refine W_guard_split rfl rfl rfl (fun hg1 => ?_) (fun hg1 => ?_)
  all_goals try (exfalso; first | omega | (simp only [Bool.false_eq_true, reduceCtorEq] at hg1; done) | (refine absurd hg1 ?_; with_reducible assumption) | (refine absurd ?_ hg1; with_reducible assumption))
  all_goals (
   first
     | (iterate 2 refine W_guard_no rfl rfl rfl ?_)
     | (iterate 2 refine W_guard_un rfl rfl ?_)
     | (refine W_guard_yes rfl ?_
        refine W_move rfl rfl ?_
        refine W_guard_yes rfl ?_
        refine W_pcall hp rfl (within_spec _ _ _) rfl ?_
        clear hp; intro w hp)
   first
     | (refine W_pick_t rfl rfl rfl ?_)
     | (refine W_pick_f rfl rfl rfl ?_)
     | (refine W_pick_b rfl rfl rfl rfl ?_)
   refine W_assign rfl rfl ?_
   refine W_nil ?_
   refine N_then_k ?_
   refine K_ret ?_
   refine N_done1 (.inr rfl) rfl rfl ?_
   refine ⟨_, rfl, congrArg Value.bool ?_, hp.nil⟩
   first
     | rfl
     | (refine Bool.eq_iff_iff.2 ?_; simp only [Bool.not_eq_true', decide_eq_true_eq, decide_eq_false_iff_not]; omega)
     | (refine (decide_eq_true ?_).symm; omega)
     | (refine (decide_eq_false ?_).symm; omega)
     | (refine decide_eq_decide.2 ?_; omega))

theorem digit_spec (c : UInt8) : PureF Tryd.prog 50 [.int .u8 (c.toNat : Int)] (.bool (decide (DigitP c.toNat))) := by
  have hu := c.toNat_lt
  refine PureF.intro go50 Tryd.func50 rfl rfl fun w0 hp => ?_
  refine K_seq ?_
  refine K_region ?_
  refine W_assign rfl rfl ?_
  refine W_nil ?_
  refine N_then_k ?_
  refine K_seq ?_
  refine K_region ?_
  refine W_move rfl rfl ?_
  refine W_pcall hp rfl (within_spec _ _ _) rfl ?_
  clear hp; intro w hp
  refine W_assign rfl rfl ?_
  refine W_nil ?_
  refine N_then_k ?_
  refine K_ret ?_
  refine N_done1 (.inr rfl) rfl rfl ?_
  refine ⟨_, rfl, congrArg Value.bool ?_, hp.nil⟩
  first
    | rfl
    | (refine Bool.eq_iff_iff.2 ?_; simp only [Bool.not_eq_true', decide_eq_true_eq, decide_eq_false_iff_not]; omega)
    | (refine (decide_eq_true ?_).symm; omega)
    | (refine (decide_eq_false ?_).symm; omega)
    | (refine decide_eq_decide.2 ?_; omega)

theorem alnum_spec (c : UInt8) : PureF Tryd.prog 42 [.int .u8 (c.toNat : Int)] (.bool (decide (AlnumP c.toNat))) := by
  have hu := c.toNat_lt
  refine PureF.intro go42 Tryd.func42 rfl rfl fun w0 hp => ?_
  refine K_seq ?_
  refine K_region ?_
  refine W_assign rfl rfl ?_
  refine W_nil ?_
  refine N_then_k ?_
  refine K_seq ?_
  refine K_region ?_
  refine W_move rfl rfl ?_
  refine W_pcall hp rfl (letter_spec c) rfl ?_
  clear hp; intro w hp
  refine W_move rfl rfl ?_
  first
    | refine W_guard_lit_t rfl ?_
    | refine W_guard_lit_f rfl ?_
    | refine W_guard_lit_u rfl ?_
    | refine W_guard_split_d rfl rfl rfl (fun hg1 => ?_) (fun hg1 => ?_)
    | refine W_guard_split_n rfl rfl rfl (fun hg1 => ?_) (fun hg1 => ?_)
    | refine W_guard_split_nb rfl rfl rfl (fun hg1 => ?_) (fun hg1 => ?_)
    | refine W_guard_split rfl rfl rfl (fun hg1 => ?_) (fun hg1 => ?_)
  all_goals try (exfalso; first | omega | (simp only [Bool.false_eq_true, reduceCtorEq] at hg1; done) | (refine absurd hg1 ?_; with_reducible assumption) | (refine absurd ?_ hg1; with_reducible assumption))
  all_goals (
   first
     | (iterate 2 refine W_guard_no rfl rfl rfl ?_)
     | (iterate 2 refine W_guard_un rfl rfl ?_)
     | (refine W_guard_yes rfl ?_
        refine W_move rfl rfl ?_
        refine W_guard_yes rfl ?_
        refine W_pcall hp rfl (digit_spec c) rfl ?_
        clear hp; intro w hp)
   first
     | (refine W_pick_t rfl rfl rfl ?_)
     | (refine W_pick_f rfl rfl rfl ?_)
     | (refine W_pick_b rfl rfl rfl rfl ?_)
   refine W_assign rfl rfl ?_
   refine W_nil ?_
   refine N_then_k ?_
   refine K_ret ?_
   refine N_done1 (.inr rfl) rfl rfl ?_
   refine ⟨_, rfl, congrArg Value.bool ?_, hp.nil⟩
   first
     | rfl
     | (refine Bool.eq_iff_iff.2 ?_; simp only [Bool.not_eq_true', decide_eq_true_eq, decide_eq_false_iff_not]; omega)
     | (refine (decide_eq_true ?_).symm; omega)
     | (refine (decide_eq_false ?_).symm; omega)
     | (refine decide_eq_decide.2 ?_; omega))

theorem token_spec (c : UInt8) : PureF Tryd.prog 33 [.int .u8 (c.toNat : Int)] (.bool (decide (TokenP c.toNat))) := by
  have hu := c.toNat_lt
  refine PureF.intro go33 Tryd.func33 rfl rfl fun w0 hp => ?_
  refine K_seq ?_
  refine K_region ?_
  refine W_assign rfl rfl ?_
  refine W_nil ?_
  refine N_then_k ?_
  refine K_seq ?_
  refine K_seq ?_
  refine K_region ?_
  refine W_move rfl rfl ?_
  refine W_nil ?_
  refine N_then_k ?_
  refine K_block ?_
  refine K_seq ?_
  refine K_block ?_
  refine K_block ?_
  refine K_seq ?_
  refine K_seq ?_
  refine K_mid (σ := Unit) [4, 5, 6, 7, 8, 9, 10, 11, 12]
      (fun _ => [(4, .bool (decide (c.toNat = 33 ∨ c.toNat = 35 ∨ c.toNat = 36 ∨ c.toNat = 37 ∨ c.toNat = 38 ∨ c.toNat = 39 ∨ c.toNat = 42 ∨ c.toNat = 43)))])
      (fun _ w => Hp w0 [] [] w) ?_ ?_
  · refine K_seq ?_
    refine K_region ?_
    first
      | (refine W_eql_t rfl rfl ?_ rfl ?_; (focus (omega)))
      | (refine W_eql_f rfl rfl ?_ rfl ?_; (focus (omega)))
      | (refine W_eql rfl rfl rfl ?_)
    refine W_assign rfl rfl ?_
    refine W_nil ?_
    refine N_then_k ?_
    first
      | refine K_cond_d rfl (fun hc1 => ?_) (fun hc1 => ?_)
      | refine K_cond_n rfl (fun hc1 => ?_) (fun hc1 => ?_)
      | refine K_cond_nb rfl (fun hc1 => ?_) (fun hc1 => ?_)
      | refine K_cond_t rfl (fun hc1 => ?_) (fun hc1 => ?_)
    · try (exfalso; first | omega | (simp only [Bool.false_eq_true, reduceCtorEq] at hc1; done) | (refine absurd hc1 ?_; with_reducible assumption) | (refine absurd ?_ hc1; with_reducible assumption))
      all_goals (
       refine K_skip ?_
       refine N_mid (()) (sub_end ?_ ?_) ?_
       · repeat' (first | exact sub_lst_nil (sub_nil _) | refine sub_lst rfl ?_ | (refine sub_lst_eq rfl ?_ ?_; · first | rfl | (first | (refine congrArg Value.bool (decide_eq_true ?_).symm; omega) | (refine congrArg Value.bool (decide_eq_decide.2 ?_); omega)) | (simp; done) | (congr 1; omega)))
       · repeat' (first | exact sub_refl _ | exact sub_strip _ _ | refine sub_s_cons rfl ?_ | refine sub_s_lst rfl ?_ | refine sub_s_strip rfl ?_)
       · exact hp)
    · try (exfalso; first | omega | (simp only [Bool.false_eq_true, reduceCtorEq] at hc1; done) | (refine absurd hc1 ?_; with_reducible assumption) | (refine absurd ?_ hc1; with_reducible assumption))
      all_goals (
       refine K_seq ?_
       refine K_region ?_
       first
         | (refine W_eql_t rfl rfl ?_ rfl ?_; (focus (omega)))
         | (refine W_eql_f rfl rfl ?_ rfl ?_; (focus (omega)))
         | (refine W_eql rfl rfl rfl ?_)
       refine W_assign rfl rfl ?_
       refine W_nil ?_
       refine N_then_k ?_
       first
         | refine K_cond_d rfl (fun hc2 => ?_) (fun hc2 => ?_)
         | refine K_cond_n rfl (fun hc2 => ?_) (fun hc2 => ?_)
         | refine K_cond_nb rfl (fun hc2 => ?_) (fun hc2 => ?_)
         | refine K_cond_t rfl (fun hc2 => ?_) (fun hc2 => ?_)
       · try (exfalso; first | omega | (simp only [Bool.false_eq_true, reduceCtorEq] at hc2; done) | (refine absurd hc2 ?_; with_reducible assumption) | (refine absurd ?_ hc2; with_reducible assumption))
         all_goals (
          refine K_skip ?_
          refine N_mid (()) (sub_end ?_ ?_) ?_
          · repeat' (first | exact sub_lst_nil (sub_nil _) | refine sub_lst rfl ?_ | (refine sub_lst_eq rfl ?_ ?_; · first | rfl | (first | (refine congrArg Value.bool (decide_eq_true ?_).symm; omega) | (refine congrArg Value.bool (decide_eq_decide.2 ?_); omega)) | (simp; done) | (congr 1; omega)))
          · repeat' (first | exact sub_refl _ | exact sub_strip _ _ | refine sub_s_cons rfl ?_ | refine sub_s_lst rfl ?_ | refine sub_s_strip rfl ?_)
          · exact hp)
       · try (exfalso; first | omega | (simp only [Bool.false_eq_true, reduceCtorEq] at hc2; done) | (refine absurd hc2 ?_; with_reducible assumption) | (refine absurd ?_ hc2; with_reducible assumption))
         all_goals (
          refine K_seq ?_
          refine K_region ?_
          first
            | (refine W_eql_t rfl rfl ?_ rfl ?_; (focus (omega)))
            | (refine W_eql_f rfl rfl ?_ rfl ?_; (focus (omega)))
            | (refine W_eql rfl rfl rfl ?_)
          refine W_assign rfl rfl ?_
          refine W_nil ?_
          refine N_then_k ?_
          first
            | refine K_cond_d rfl (fun hc3 => ?_) (fun hc3 => ?_)
            | refine K_cond_n rfl (fun hc3 => ?_) (fun hc3 => ?_)
            | refine K_cond_nb rfl (fun hc3 => ?_) (fun hc3 => ?_)
            | refine K_cond_t rfl (fun hc3 => ?_) (fun hc3 => ?_)
          · try (exfalso; first | omega | (simp only [Bool.false_eq_true, reduceCtorEq] at hc3; done) | (refine absurd hc3 ?_; with_reducible assumption) | (refine absurd ?_ hc3; with_reducible assumption))
            all_goals (
             refine K_skip ?_
             refine N_mid (()) (sub_end ?_ ?_) ?_
             · repeat' (first | exact sub_lst_nil (sub_nil _) | refine sub_lst rfl ?_ | (refine sub_lst_eq rfl ?_ ?_; · first | rfl | (first | (refine congrArg Value.bool (decide_eq_true ?_).symm; omega) | (refine congrArg Value.bool (decide_eq_decide.2 ?_); omega)) | (simp; done) | (congr 1; omega)))
             · repeat' (first | exact sub_refl _ | exact sub_strip _ _ | refine sub_s_cons rfl ?_ | refine sub_s_lst rfl ?_ | refine sub_s_strip rfl ?_)
             · exact hp)
          · try (exfalso; first | omega | (simp only [Bool.false_eq_true, reduceCtorEq] at hc3; done) | (refine absurd hc3 ?_; with_reducible assumption) | (refine absurd ?_ hc3; with_reducible assumption))
            all_goals (
             refine K_seq ?_
             refine K_region ?_
             first
               | (refine W_eql_t rfl rfl ?_ rfl ?_; (focus (omega)))
               | (refine W_eql_f rfl rfl ?_ rfl ?_; (focus (omega)))
               | (refine W_eql rfl rfl rfl ?_)
             refine W_assign rfl rfl ?_
             refine W_nil ?_
             refine N_then_k ?_
             first
               | refine K_cond_d rfl (fun hc4 => ?_) (fun hc4 => ?_)
               | refine K_cond_n rfl (fun hc4 => ?_) (fun hc4 => ?_)
               | refine K_cond_nb rfl (fun hc4 => ?_) (fun hc4 => ?_)
               | refine K_cond_t rfl (fun hc4 => ?_) (fun hc4 => ?_)
             · try (exfalso; first | omega | (simp only [Bool.false_eq_true, reduceCtorEq] at hc4; done) | (refine absurd hc4 ?_; with_reducible assumption) | (refine absurd ?_ hc4; with_reducible assumption))
               all_goals (
                refine K_skip ?_
                refine N_mid (()) (sub_end ?_ ?_) ?_
                · repeat' (first | exact sub_lst_nil (sub_nil _) | refine sub_lst rfl ?_ | (refine sub_lst_eq rfl ?_ ?_; · first | rfl | (first | (refine congrArg Value.bool (decide_eq_true ?_).symm; omega) | (refine congrArg Value.bool (decide_eq_decide.2 ?_); omega)) | (simp; done) | (congr 1; omega)))
                · repeat' (first | exact sub_refl _ | exact sub_strip _ _ | refine sub_s_cons rfl ?_ | refine sub_s_lst rfl ?_ | refine sub_s_strip rfl ?_)
                · exact hp)
             · try (exfalso; first | omega | (simp only [Bool.false_eq_true, reduceCtorEq] at hc4; done) | (refine absurd hc4 ?_; with_reducible assumption) | (refine absurd ?_ hc4; with_reducible assumption))
               all_goals (
                refine K_seq ?_
                refine K_region ?_
                first
                  | (refine W_eql_t rfl rfl ?_ rfl ?_; (focus (omega)))
                  | (refine W_eql_f rfl rfl ?_ rfl ?_; (focus (omega)))
                  | (refine W_eql rfl rfl rfl ?_)
                refine W_assign rfl rfl ?_
                refine W_nil ?_
                refine N_then_k ?_
                first
                  | refine K_cond_d rfl (fun hc5 => ?_) (fun hc5 => ?_)
                  | refine K_cond_n rfl (fun hc5 => ?_) (fun hc5 => ?_)
                  | refine K_cond_nb rfl (fun hc5 => ?_) (fun hc5 => ?_)
                  | refine K_cond_t rfl (fun hc5 => ?_) (fun hc5 => ?_)
                · try (exfalso; first | omega | (simp only [Bool.false_eq_true, reduceCtorEq] at hc5; done) | (refine absurd hc5 ?_; with_reducible assumption) | (refine absurd ?_ hc5; with_reducible assumption))
                  all_goals (
                   refine K_skip ?_
                   refine N_mid (()) (sub_end ?_ ?_) ?_
                   · repeat' (first | exact sub_lst_nil (sub_nil _) | refine sub_lst rfl ?_ | (refine sub_lst_eq rfl ?_ ?_; · first | rfl | (first | (refine congrArg Value.bool (decide_eq_true ?_).symm; omega) | (refine congrArg Value.bool (decide_eq_decide.2 ?_); omega)) | (simp; done) | (congr 1; omega)))
                   · repeat' (first | exact sub_refl _ | exact sub_strip _ _ | refine sub_s_cons rfl ?_ | refine sub_s_lst rfl ?_ | refine sub_s_strip rfl ?_)
                   · exact hp)
                · try (exfalso; first | omega | (simp only [Bool.false_eq_true, reduceCtorEq] at hc5; done) | (refine absurd hc5 ?_; with_reducible assumption) | (refine absurd ?_ hc5; with_reducible assumption))
                  all_goals (
                   refine K_seq ?_
                   refine K_region ?_
                   first
                     | (refine W_eql_t rfl rfl ?_ rfl ?_; (focus (omega)))
                     | (refine W_eql_f rfl rfl ?_ rfl ?_; (focus (omega)))
                     | (refine W_eql rfl rfl rfl ?_)
                   refine W_assign rfl rfl ?_
                   refine W_nil ?_
                   refine N_then_k ?_
                   first
                     | refine K_cond_d rfl (fun hc6 => ?_) (fun hc6 => ?_)
                     | refine K_cond_n rfl (fun hc6 => ?_) (fun hc6 => ?_)
                     | refine K_cond_nb rfl (fun hc6 => ?_) (fun hc6 => ?_)
                     | refine K_cond_t rfl (fun hc6 => ?_) (fun hc6 => ?_)
                   · try (exfalso; first | omega | (simp only [Bool.false_eq_true, reduceCtorEq] at hc6; done) | (refine absurd hc6 ?_; with_reducible assumption) | (refine absurd ?_ hc6; with_reducible assumption))
                     all_goals (
                      refine K_skip ?_
                      refine N_mid (()) (sub_end ?_ ?_) ?_
                      · repeat' (first | exact sub_lst_nil (sub_nil _) | refine sub_lst rfl ?_ | (refine sub_lst_eq rfl ?_ ?_; · first | rfl | (first | (refine congrArg Value.bool (decide_eq_true ?_).symm; omega) | (refine congrArg Value.bool (decide_eq_decide.2 ?_); omega)) | (simp; done) | (congr 1; omega)))
                      · repeat' (first | exact sub_refl _ | exact sub_strip _ _ | refine sub_s_cons rfl ?_ | refine sub_s_lst rfl ?_ | refine sub_s_strip rfl ?_)
                      · exact hp)
                   · try (exfalso; first | omega | (simp only [Bool.false_eq_true, reduceCtorEq] at hc6; done) | (refine absurd hc6 ?_; with_reducible assumption) | (refine absurd ?_ hc6; with_reducible assumption))
                     all_goals (
                      refine K_seq ?_
                      refine K_region ?_
                      first
                        | (refine W_eql_t rfl rfl ?_ rfl ?_; (focus (omega)))
                        | (refine W_eql_f rfl rfl ?_ rfl ?_; (focus (omega)))
                        | (refine W_eql rfl rfl rfl ?_)
                      refine W_assign rfl rfl ?_
                      refine W_nil ?_
                      refine N_then_k ?_
                      first
                        | refine K_cond_d rfl (fun hc7 => ?_) (fun hc7 => ?_)
                        | refine K_cond_n rfl (fun hc7 => ?_) (fun hc7 => ?_)
                        | refine K_cond_nb rfl (fun hc7 => ?_) (fun hc7 => ?_)
                        | refine K_cond_t rfl (fun hc7 => ?_) (fun hc7 => ?_)
                      · try (exfalso; first | omega | (simp only [Bool.false_eq_true, reduceCtorEq] at hc7; done) | (refine absurd hc7 ?_; with_reducible assumption) | (refine absurd ?_ hc7; with_reducible assumption))
                        all_goals (
                         refine K_skip ?_
                         refine N_mid (()) (sub_end ?_ ?_) ?_
                         · repeat' (first | exact sub_lst_nil (sub_nil _) | refine sub_lst rfl ?_ | (refine sub_lst_eq rfl ?_ ?_; · first | rfl | (first | (refine congrArg Value.bool (decide_eq_true ?_).symm; omega) | (refine congrArg Value.bool (decide_eq_decide.2 ?_); omega)) | (simp; done) | (congr 1; omega)))
                         · repeat' (first | exact sub_refl _ | exact sub_strip _ _ | refine sub_s_cons rfl ?_ | refine sub_s_lst rfl ?_ | refine sub_s_strip rfl ?_)
                         · exact hp)
                      · try (exfalso; first | omega | (simp only [Bool.false_eq_true, reduceCtorEq] at hc7; done) | (refine absurd hc7 ?_; with_reducible assumption) | (refine absurd ?_ hc7; with_reducible assumption))
                        all_goals (
                         refine K_region ?_
                         first
                           | (refine W_eql_t rfl rfl ?_ rfl ?_; (focus (omega)))
                           | (refine W_eql_f rfl rfl ?_ rfl ?_; (focus (omega)))
                           | (refine W_eql rfl rfl rfl ?_)
                         refine W_assign rfl rfl ?_
                         refine W_nil ?_
                         refine N_mid (()) (sub_end ?_ ?_) ?_
                         · repeat' (first | exact sub_lst_nil (sub_nil _) | refine sub_lst rfl ?_ | (refine sub_lst_eq rfl ?_ ?_; · first | rfl | (first | (refine congrArg Value.bool (decide_eq_true ?_).symm; omega) | (refine congrArg Value.bool (decide_eq_decide.2 ?_); omega)) | (simp; done) | (congr 1; omega)))
                         · repeat' (first | exact sub_refl _ | exact sub_strip _ _ | refine sub_s_cons rfl ?_ | refine sub_s_lst rfl ?_ | refine sub_s_strip rfl ?_)
                         · exact hp)))))))
  · intro _ w hJ
    have hp := hJ
    first
      | refine K_cond_d rfl (fun hc8 => ?_) (fun hc8 => ?_)
      | refine K_cond_n rfl (fun hc8 => ?_) (fun hc8 => ?_)
      | refine K_cond_nb rfl (fun hc8 => ?_) (fun hc8 => ?_)
      | refine K_cond_t rfl (fun hc8 => ?_) (fun hc8 => ?_)
    · try (exfalso; first | omega | (simp only [Bool.false_eq_true, reduceCtorEq] at hc8; done) | (refine absurd hc8 ?_; with_reducible assumption) | (refine absurd ?_ hc8; with_reducible assumption))
      all_goals (
       refine K_exit ?_
       refine N_then_exit ?_
       refine N_then_exit ?_
       refine N_block_exit ?_
       refine N_block_normal ?_
       refine N_then_k ?_
       refine K_seq ?_
       refine K_seq ?_
       refine K_region ?_
       refine W_assign rfl rfl ?_
       refine W_nil ?_
       refine N_then_k ?_
       refine K_ret ?_
       refine N_then_ret ?_
       refine N_block_ret ?_
       refine N_then_ret ?_
       refine N_done1 (.inr rfl) rfl rfl ?_
       refine ⟨_, rfl, congrArg Value.bool ?_, hp.nil⟩
       first
         | rfl
         | (refine Bool.eq_iff_iff.2 ?_; simp only [Bool.not_eq_true', decide_eq_true_eq, decide_eq_false_iff_not]; omega)
         | (refine (decide_eq_true ?_).symm; omega)
         | (refine (decide_eq_false ?_).symm; omega)
         | (refine decide_eq_decide.2 ?_; omega))
    · try (exfalso; first | omega | (simp only [Bool.false_eq_true, reduceCtorEq] at hc8; done) | (refine absurd hc8 ?_; with_reducible assumption) | (refine absurd ?_ hc8; with_reducible assumption))
      all_goals (
       refine K_skip ?_
       refine N_then_k ?_
       refine K_mid (σ := Unit) [13, 14, 15, 16, 17, 18, 19, 20]
           (fun _ => [(13, .bool (decide (c.toNat = 45 ∨ c.toNat = 46 ∨ c.toNat = 94 ∨ c.toNat = 95 ∨ c.toNat = 96 ∨ c.toNat = 124 ∨ c.toNat = 126)))])
           (fun _ w => Hp w0 [] [] w) ?_ ?_
       · refine K_seq ?_
         refine K_region ?_
         first
           | (refine W_eql_t rfl rfl ?_ rfl ?_; (focus (omega)))
           | (refine W_eql_f rfl rfl ?_ rfl ?_; (focus (omega)))
           | (refine W_eql rfl rfl rfl ?_)
         refine W_assign rfl rfl ?_
         refine W_nil ?_
         refine N_then_k ?_
         first
           | refine K_cond_d rfl (fun hc9 => ?_) (fun hc9 => ?_)
           | refine K_cond_n rfl (fun hc9 => ?_) (fun hc9 => ?_)
           | refine K_cond_nb rfl (fun hc9 => ?_) (fun hc9 => ?_)
           | refine K_cond_t rfl (fun hc9 => ?_) (fun hc9 => ?_)
         · try (exfalso; first | omega | (simp only [Bool.false_eq_true, reduceCtorEq] at hc9; done) | (refine absurd hc9 ?_; with_reducible assumption) | (refine absurd ?_ hc9; with_reducible assumption))
           all_goals (
            refine K_skip ?_
            refine N_mid (()) (sub_end ?_ ?_) ?_
            · repeat' (first | exact sub_lst_nil (sub_nil _) | refine sub_lst rfl ?_ | (refine sub_lst_eq rfl ?_ ?_; · first | rfl | (first | (refine congrArg Value.bool (decide_eq_true ?_).symm; omega) | (refine congrArg Value.bool (decide_eq_decide.2 ?_); omega)) | (simp; done) | (congr 1; omega)))
            · repeat' (first | exact sub_refl _ | exact sub_strip _ _ | refine sub_s_cons rfl ?_ | refine sub_s_lst rfl ?_ | refine sub_s_strip rfl ?_)
            · exact hp)
         · try (exfalso; first | omega | (simp only [Bool.false_eq_true, reduceCtorEq] at hc9; done) | (refine absurd hc9 ?_; with_reducible assumption) | (refine absurd ?_ hc9; with_reducible assumption))
           all_goals (
            refine K_seq ?_
            refine K_region ?_
            first
              | (refine W_eql_t rfl rfl ?_ rfl ?_; (focus (omega)))
              | (refine W_eql_f rfl rfl ?_ rfl ?_; (focus (omega)))
              | (refine W_eql rfl rfl rfl ?_)
            refine W_assign rfl rfl ?_
            refine W_nil ?_
            refine N_then_k ?_
            first
              | refine K_cond_d rfl (fun hc10 => ?_) (fun hc10 => ?_)
              | refine K_cond_n rfl (fun hc10 => ?_) (fun hc10 => ?_)
              | refine K_cond_nb rfl (fun hc10 => ?_) (fun hc10 => ?_)
              | refine K_cond_t rfl (fun hc10 => ?_) (fun hc10 => ?_)
            · try (exfalso; first | omega | (simp only [Bool.false_eq_true, reduceCtorEq] at hc10; done) | (refine absurd hc10 ?_; with_reducible assumption) | (refine absurd ?_ hc10; with_reducible assumption))
              all_goals (
               refine K_skip ?_
               refine N_mid (()) (sub_end ?_ ?_) ?_
               · repeat' (first | exact sub_lst_nil (sub_nil _) | refine sub_lst rfl ?_ | (refine sub_lst_eq rfl ?_ ?_; · first | rfl | (first | (refine congrArg Value.bool (decide_eq_true ?_).symm; omega) | (refine congrArg Value.bool (decide_eq_decide.2 ?_); omega)) | (simp; done) | (congr 1; omega)))
               · repeat' (first | exact sub_refl _ | exact sub_strip _ _ | refine sub_s_cons rfl ?_ | refine sub_s_lst rfl ?_ | refine sub_s_strip rfl ?_)
               · exact hp)
            · try (exfalso; first | omega | (simp only [Bool.false_eq_true, reduceCtorEq] at hc10; done) | (refine absurd hc10 ?_; with_reducible assumption) | (refine absurd ?_ hc10; with_reducible assumption))
              all_goals (
               refine K_seq ?_
               refine K_region ?_
               first
                 | (refine W_eql_t rfl rfl ?_ rfl ?_; (focus (omega)))
                 | (refine W_eql_f rfl rfl ?_ rfl ?_; (focus (omega)))
                 | (refine W_eql rfl rfl rfl ?_)
               refine W_assign rfl rfl ?_
               refine W_nil ?_
               refine N_then_k ?_
               first
                 | refine K_cond_d rfl (fun hc11 => ?_) (fun hc11 => ?_)
                 | refine K_cond_n rfl (fun hc11 => ?_) (fun hc11 => ?_)
                 | refine K_cond_nb rfl (fun hc11 => ?_) (fun hc11 => ?_)
                 | refine K_cond_t rfl (fun hc11 => ?_) (fun hc11 => ?_)
               · try (exfalso; first | omega | (simp only [Bool.false_eq_true, reduceCtorEq] at hc11; done) | (refine absurd hc11 ?_; with_reducible assumption) | (refine absurd ?_ hc11; with_reducible assumption))
                 all_goals (
                  refine K_skip ?_
                  refine N_mid (()) (sub_end ?_ ?_) ?_
                  · repeat' (first | exact sub_lst_nil (sub_nil _) | refine sub_lst rfl ?_ | (refine sub_lst_eq rfl ?_ ?_; · first | rfl | (first | (refine congrArg Value.bool (decide_eq_true ?_).symm; omega) | (refine congrArg Value.bool (decide_eq_decide.2 ?_); omega)) | (simp; done) | (congr 1; omega)))
                  · repeat' (first | exact sub_refl _ | exact sub_strip _ _ | refine sub_s_cons rfl ?_ | refine sub_s_lst rfl ?_ | refine sub_s_strip rfl ?_)
                  · exact hp)
               · try (exfalso; first | omega | (simp only [Bool.false_eq_true, reduceCtorEq] at hc11; done) | (refine absurd hc11 ?_; with_reducible assumption) | (refine absurd ?_ hc11; with_reducible assumption))
                 all_goals (
                  refine K_seq ?_
                  refine K_region ?_
                  first
                    | (refine W_eql_t rfl rfl ?_ rfl ?_; (focus (omega)))
                    | (refine W_eql_f rfl rfl ?_ rfl ?_; (focus (omega)))
                    | (refine W_eql rfl rfl rfl ?_)
                  refine W_assign rfl rfl ?_
                  refine W_nil ?_
                  refine N_then_k ?_
                  first
                    | refine K_cond_d rfl (fun hc12 => ?_) (fun hc12 => ?_)
                    | refine K_cond_n rfl (fun hc12 => ?_) (fun hc12 => ?_)
                    | refine K_cond_nb rfl (fun hc12 => ?_) (fun hc12 => ?_)
                    | refine K_cond_t rfl (fun hc12 => ?_) (fun hc12 => ?_)
                  · try (exfalso; first | omega | (simp only [Bool.false_eq_true, reduceCtorEq] at hc12; done) | (refine absurd hc12 ?_; with_reducible assumption) | (refine absurd ?_ hc12; with_reducible assumption))
                    all_goals (
                     refine K_skip ?_
                     refine N_mid (()) (sub_end ?_ ?_) ?_
                     · repeat' (first | exact sub_lst_nil (sub_nil _) | refine sub_lst rfl ?_ | (refine sub_lst_eq rfl ?_ ?_; · first | rfl | (first | (refine congrArg Value.bool (decide_eq_true ?_).symm; omega) | (refine congrArg Value.bool (decide_eq_decide.2 ?_); omega)) | (simp; done) | (congr 1; omega)))
                     · repeat' (first | exact sub_refl _ | exact sub_strip _ _ | refine sub_s_cons rfl ?_ | refine sub_s_lst rfl ?_ | refine sub_s_strip rfl ?_)
                     · exact hp)
                  · try (exfalso; first | omega | (simp only [Bool.false_eq_true, reduceCtorEq] at hc12; done) | (refine absurd hc12 ?_; with_reducible assumption) | (refine absurd ?_ hc12; with_reducible assumption))
                    all_goals (
                     refine K_seq ?_
                     refine K_region ?_
                     first
                       | (refine W_eql_t rfl rfl ?_ rfl ?_; (focus (omega)))
                       | (refine W_eql_f rfl rfl ?_ rfl ?_; (focus (omega)))
                       | (refine W_eql rfl rfl rfl ?_)
                     refine W_assign rfl rfl ?_
                     refine W_nil ?_
                     refine N_then_k ?_
                     first
                       | refine K_cond_d rfl (fun hc13 => ?_) (fun hc13 => ?_)
                       | refine K_cond_n rfl (fun hc13 => ?_) (fun hc13 => ?_)
                       | refine K_cond_nb rfl (fun hc13 => ?_) (fun hc13 => ?_)
                       | refine K_cond_t rfl (fun hc13 => ?_) (fun hc13 => ?_)
                     · try (exfalso; first | omega | (simp only [Bool.false_eq_true, reduceCtorEq] at hc13; done) | (refine absurd hc13 ?_; with_reducible assumption) | (refine absurd ?_ hc13; with_reducible assumption))
                       all_goals (
                        refine K_skip ?_
                        refine N_mid (()) (sub_end ?_ ?_) ?_
                        · repeat' (first | exact sub_lst_nil (sub_nil _) | refine sub_lst rfl ?_ | (refine sub_lst_eq rfl ?_ ?_; · first | rfl | (first | (refine congrArg Value.bool (decide_eq_true ?_).symm; omega) | (refine congrArg Value.bool (decide_eq_decide.2 ?_); omega)) | (simp; done) | (congr 1; omega)))
                        · repeat' (first | exact sub_refl _ | exact sub_strip _ _ | refine sub_s_cons rfl ?_ | refine sub_s_lst rfl ?_ | refine sub_s_strip rfl ?_)
                        · exact hp)
                     · try (exfalso; first | omega | (simp only [Bool.false_eq_true, reduceCtorEq] at hc13; done) | (refine absurd hc13 ?_; with_reducible assumption) | (refine absurd ?_ hc13; with_reducible assumption))
                       all_goals (
                        refine K_seq ?_
                        refine K_region ?_
                        first
                          | (refine W_eql_t rfl rfl ?_ rfl ?_; (focus (omega)))
                          | (refine W_eql_f rfl rfl ?_ rfl ?_; (focus (omega)))
                          | (refine W_eql rfl rfl rfl ?_)
                        refine W_assign rfl rfl ?_
                        refine W_nil ?_
                        refine N_then_k ?_
                        first
                          | refine K_cond_d rfl (fun hc14 => ?_) (fun hc14 => ?_)
                          | refine K_cond_n rfl (fun hc14 => ?_) (fun hc14 => ?_)
                          | refine K_cond_nb rfl (fun hc14 => ?_) (fun hc14 => ?_)
                          | refine K_cond_t rfl (fun hc14 => ?_) (fun hc14 => ?_)
                        · try (exfalso; first | omega | (simp only [Bool.false_eq_true, reduceCtorEq] at hc14; done) | (refine absurd hc14 ?_; with_reducible assumption) | (refine absurd ?_ hc14; with_reducible assumption))
                          all_goals (
                           refine K_skip ?_
                           refine N_mid (()) (sub_end ?_ ?_) ?_
                           · repeat' (first | exact sub_lst_nil (sub_nil _) | refine sub_lst rfl ?_ | (refine sub_lst_eq rfl ?_ ?_; · first | rfl | (first | (refine congrArg Value.bool (decide_eq_true ?_).symm; omega) | (refine congrArg Value.bool (decide_eq_decide.2 ?_); omega)) | (simp; done) | (congr 1; omega)))
                           · repeat' (first | exact sub_refl _ | exact sub_strip _ _ | refine sub_s_cons rfl ?_ | refine sub_s_lst rfl ?_ | refine sub_s_strip rfl ?_)
                           · exact hp)
                        · try (exfalso; first | omega | (simp only [Bool.false_eq_true, reduceCtorEq] at hc14; done) | (refine absurd hc14 ?_; with_reducible assumption) | (refine absurd ?_ hc14; with_reducible assumption))
                          all_goals (
                           refine K_region ?_
                           first
                             | (refine W_eql_t rfl rfl ?_ rfl ?_; (focus (omega)))
                             | (refine W_eql_f rfl rfl ?_ rfl ?_; (focus (omega)))
                             | (refine W_eql rfl rfl rfl ?_)
                           refine W_assign rfl rfl ?_
                           refine W_nil ?_
                           refine N_mid (()) (sub_end ?_ ?_) ?_
                           · repeat' (first | exact sub_lst_nil (sub_nil _) | refine sub_lst rfl ?_ | (refine sub_lst_eq rfl ?_ ?_; · first | rfl | (first | (refine congrArg Value.bool (decide_eq_true ?_).symm; omega) | (refine congrArg Value.bool (decide_eq_decide.2 ?_); omega)) | (simp; done) | (congr 1; omega)))
                           · repeat' (first | exact sub_refl _ | exact sub_strip _ _ | refine sub_s_cons rfl ?_ | refine sub_s_lst rfl ?_ | refine sub_s_strip rfl ?_)
                           · exact hp))))))
       · intro _ w hJ
         have hp := hJ
         first
           | refine K_cond_d rfl (fun hc15 => ?_) (fun hc15 => ?_)
           | refine K_cond_n rfl (fun hc15 => ?_) (fun hc15 => ?_)
           | refine K_cond_nb rfl (fun hc15 => ?_) (fun hc15 => ?_)
           | refine K_cond_t rfl (fun hc15 => ?_) (fun hc15 => ?_)
         · try (exfalso; first | omega | (simp only [Bool.false_eq_true, reduceCtorEq] at hc15; done) | (refine absurd hc15 ?_; with_reducible assumption) | (refine absurd ?_ hc15; with_reducible assumption))
           all_goals (
            refine K_exit ?_
            refine N_then_exit ?_
            refine N_block_other rfl ?_
            refine N_block_exit ?_
            refine N_then_k ?_
            refine K_seq ?_
            refine K_seq ?_
            refine K_region ?_
            refine W_assign rfl rfl ?_
            refine W_nil ?_
            refine N_then_k ?_
            refine K_ret ?_
            refine N_then_ret ?_
            refine N_block_ret ?_
            refine N_then_ret ?_
            refine N_done1 (.inr rfl) rfl rfl ?_
            refine ⟨_, rfl, congrArg Value.bool ?_, hp.nil⟩
            first
              | rfl
              | (refine Bool.eq_iff_iff.2 ?_; simp only [Bool.not_eq_true', decide_eq_true_eq, decide_eq_false_iff_not]; omega)
              | (refine (decide_eq_true ?_).symm; omega)
              | (refine (decide_eq_false ?_).symm; omega)
              | (refine decide_eq_decide.2 ?_; omega))
         · try (exfalso; first | omega | (simp only [Bool.false_eq_true, reduceCtorEq] at hc15; done) | (refine absurd hc15 ?_; with_reducible assumption) | (refine absurd ?_ hc15; with_reducible assumption))
           all_goals (
            refine K_skip ?_
            refine N_then_k ?_
            refine K_exit ?_
            refine N_block_other rfl ?_
            refine N_block_other rfl ?_
            refine N_then_exit ?_
            refine N_block_exit ?_
            refine N_then_k ?_
            refine K_seq ?_
            refine K_region ?_
            refine W_move rfl rfl ?_
            refine W_pcall hp rfl (alnum_spec c) rfl ?_
            clear hp; intro w hp
            refine W_assign rfl rfl ?_
            refine W_nil ?_
            refine N_then_k ?_
            refine K_ret ?_
            refine N_done1 (.inr rfl) rfl rfl ?_
            refine ⟨_, rfl, congrArg Value.bool ?_, hp.nil⟩
            first
              | rfl
              | (refine Bool.eq_iff_iff.2 ?_; simp only [Bool.not_eq_true', decide_eq_true_eq, decide_eq_false_iff_not]; omega)
              | (refine (decide_eq_true ?_).symm; omega)
              | (refine (decide_eq_false ?_).symm; omega)
              | (refine decide_eq_decide.2 ?_; omega)))

theorem blank_spec (c : UInt8) : PureF Tryd.prog 41 [.int .u8 (c.toNat : Int)] (.bool (decide (BlankP c.toNat))) := by
  have hu := c.toNat_lt
  refine PureF.intro go41 Tryd.func41 rfl rfl fun w0 hp => ?_
  refine K_seq ?_
  refine K_region ?_
  refine W_assign rfl rfl ?_
  refine W_nil ?_
  refine N_then_k ?_
  refine K_seq ?_
  refine K_region ?_
  refine W_move rfl rfl ?_
  first
    | (refine W_eql_t rfl rfl ?_ rfl ?_; (focus (omega)))
    | (refine W_eql_f rfl rfl ?_ rfl ?_; (focus (omega)))
    | (refine W_eql rfl rfl rfl ?_)
  refine W_move rfl rfl ?_
  first
    | refine W_guard_lit_t rfl ?_
    | refine W_guard_lit_f rfl ?_
    | refine W_guard_lit_u rfl ?_
    | refine W_guard_split_d rfl rfl rfl (fun hg1 => ?_) (fun hg1 => ?_)
    | refine W_guard_split_n rfl rfl rfl (fun hg1 => ?_) (fun hg1 => ?_)
    | refine W_guard_split_nb rfl rfl rfl (fun hg1 => ?_) (fun hg1 => ?_)
    | refine W_guard_split rfl rfl rfl (fun hg1 => ?_) (fun hg1 => ?_)
  all_goals try (exfalso; first | omega | (simp only [Bool.false_eq_true, reduceCtorEq] at hg1; done) | (refine absurd hg1 ?_; with_reducible assumption) | (refine absurd ?_ hg1; with_reducible assumption))
  all_goals (
   first
     | (iterate 2 refine W_guard_no rfl rfl rfl ?_)
     | (iterate 2 refine W_guard_un rfl rfl ?_)
     | (refine W_guard_yes rfl ?_
        refine W_move rfl rfl ?_
        refine W_guard_yes rfl ?_
        first
          | (refine W_eql_t rfl rfl ?_ rfl ?_; (focus (omega)))
          | (refine W_eql_f rfl rfl ?_ rfl ?_; (focus (omega)))
          | (refine W_eql rfl rfl rfl ?_))
   first
     | (refine W_pick_t rfl rfl rfl ?_)
     | (refine W_pick_f rfl rfl rfl ?_)
     | (refine W_pick_b rfl rfl rfl rfl ?_)
   refine W_assign rfl rfl ?_
   refine W_nil ?_
   refine N_then_k ?_
   refine K_ret ?_
   refine N_done1 (.inr rfl) rfl rfl ?_
   refine ⟨_, rfl, congrArg Value.bool ?_, hp.nil⟩
   first
     | rfl
     | (refine Bool.eq_iff_iff.2 ?_; simp only [Bool.not_eq_true', decide_eq_true_eq, decide_eq_false_iff_not]; omega)
     | (refine (decide_eq_true ?_).symm; omega)
     | (refine (decide_eq_false ?_).symm; omega)
     | (refine decide_eq_decide.2 ?_; omega))

theorem all_spec (s : List UInt8) (fv : Value) (p : UInt8 → Bool) (hf : ∀ c : UInt8, PureV Tryd.prog fv [.int .u8 (c.toNat : Int)] (.bool (p c))) (hl : s.length ≤ 9000000000000000000) : PureF Tryd.prog 32 [.string ⟨s.toArray⟩, fv] (.bool (s.all p)) := by
  refine PureF.intro go32 Tryd.func32 rfl rfl fun w0 hp => ?_
  refine K_seq ?_
  refine K_region ?_
  refine W_assign rfl rfl ?_
  refine W_nil ?_
  refine N_then_k ?_
  refine K_seq ?_
  refine K_seq ?_
  refine K_region ?_
  refine W_move rfl rfl ?_
  refine W_len_s Tryd.underlying9 rfl rfl ?_
  refine W_move rfl rfl ?_
  refine W_nil ?_
  refine N_then_k ?_
  refine K_block ?_
  refine K_loop (σ := Nat) [4, 5, 8, 9, 10, 11, 12, 13, 14, 15, 16, 17]
      (fun k => [(8, .int .i64 k)])
      (fun k w => Hp w0 [] [] w ∧ k ≤ s.length ∧ (s.take k).all p = true)
      (fun k => s.length - k) (0) ?_ ?_ ?_
  · repeat' (first | exact sub_lst_nil (sub_nil _) | refine sub_lst rfl ?_ | (refine sub_lst_eq rfl ?_ ?_; · first | rfl | (simp; done) | (congr 1; omega)))
  · exact ⟨hp, Nat.zero_le _, by simp⟩
  · intro k w hJ
    clear hp
    obtain ⟨hp, hle, ha⟩ := hJ
    rcases Nat.lt_or_ge k s.length with hlt | hge
    all_goals (
     refine K_seq ?_
     refine K_region ?_
     first
       | (refine W_lss_t rfl rfl ?_ rfl ?_; (focus (omega)))
       | (refine W_lss_f rfl rfl ?_ rfl ?_; (focus (omega)))
       | (refine W_lss rfl rfl rfl ?_)
     refine W_nil ?_
     refine N_then_k ?_
     refine K_seq ?_
     first
       | refine K_cond_d rfl (fun hc1 => ?_) (fun hc1 => ?_)
       | refine K_cond_n rfl (fun hc1 => ?_) (fun hc1 => ?_)
       | refine K_cond_nb rfl (fun hc1 => ?_) (fun hc1 => ?_)
       | refine K_cond_t rfl (fun hc1 => ?_) (fun hc1 => ?_)
     · try (exfalso; first | omega | (simp only [Bool.false_eq_true, reduceCtorEq] at hc1; done) | (refine absurd hc1 ?_; with_reducible assumption) | (refine absurd ?_ hc1; with_reducible assumption))
       all_goals (
        refine K_skip ?_
        refine N_then_k ?_
        refine K_seq ?_
        refine K_block ?_
        refine K_seq ?_
        refine K_region ?_
        refine W_move rfl rfl ?_
        refine W_assign rfl rfl ?_
        refine W_nil ?_
        refine N_then_k ?_
        refine K_seq ?_
        refine K_region ?_
        obtain ⟨c, hc⟩ : ∃ c, s[k]? = some c := ⟨_, List.getElem?_eq_getElem hlt⟩
        refine W_move rfl rfl ?_
        refine W_move rfl rfl ?_
        refine W_move rfl rfl ?_
        refine W_index_s Tryd.underlying9 rfl rfl ?_ (by first | with_reducible assumption | assumption | exact rfl | exact idx_getD (by first | omega | (simp; omega))) rfl ?_
        (focus (omega))
        refine W_vcall hp rfl rfl (hf c) rfl ?_
        clear hp; intro w hp
        first
          | (refine W_not_t rfl rfl ?_)
          | (refine W_not_f rfl rfl ?_)
          | (refine W_not rfl rfl ?_)
        refine W_nil ?_
        refine N_then_k ?_
        first
          | refine K_cond_d rfl (fun hc2 => ?_) (fun hc2 => ?_)
          | refine K_cond_n rfl (fun hc2 => ?_) (fun hc2 => ?_)
          | refine K_cond_nb rfl (fun hc2 => ?_) (fun hc2 => ?_)
          | refine K_cond_t rfl (fun hc2 => ?_) (fun hc2 => ?_)
        · try (exfalso; first | omega | (simp only [Bool.false_eq_true, reduceCtorEq] at hc2; done) | (refine absurd hc2 ?_; with_reducible assumption) | (refine absurd ?_ hc2; with_reducible assumption))
          all_goals (
           refine K_seq ?_
           refine K_region ?_
           refine W_assign rfl rfl ?_
           refine W_nil ?_
           refine N_then_k ?_
           refine K_ret ?_
           refine N_block_ret ?_
           refine N_then_ret ?_
           refine N_then_ret ?_
           refine N_block_ret ?_
           refine N_then_ret ?_
           refine N_done1 (.inr rfl) rfl rfl ?_
           refine ⟨_, rfl, congrArg Value.bool ?_, hp.nil⟩
           first
             | (rw [all_not ‹s[k]? = some c› (by assumption)])
             | (rw [List.take_of_length_le ‹s.length ≤ k›] at ha; rw [ha]))
        · try (exfalso; first | omega | (simp only [Bool.false_eq_true, reduceCtorEq] at hc2; done) | (refine absurd hc2 ?_; with_reducible assumption) | (refine absurd ?_ hc2; with_reducible assumption))
          all_goals (
           refine K_skip ?_
           refine N_block_normal ?_
           refine N_then_k ?_
           refine K_region ?_
           first
             | (refine W_add rfl rfl (wr_i64 ?_) rfl ?_; (focus (omega)))
             | (refine W_add rfl rfl rfl rfl ?_)
           refine W_move rfl rfl ?_
           refine W_nil ?_
           refine N_again (k + 1) (sub_end ?_ ?_) ?_ ?_
           · repeat' (first | exact sub_lst_nil (sub_nil _) | refine sub_lst rfl ?_ | (refine sub_lst_eq rfl ?_ ?_; · first | rfl | (simp; done) | (congr 1; omega)))
           · repeat' (first | exact sub_refl _ | exact sub_strip _ _ | refine sub_s_cons rfl ?_ | refine sub_s_lst rfl ?_ | refine sub_s_strip rfl ?_)
           · refine ⟨hp, hlt, ?_⟩
             rw [all_take hc, ha]; simpa using ‹p c = true›
           · omega))
     · try (exfalso; first | omega | (simp only [Bool.false_eq_true, reduceCtorEq] at hc1; done) | (refine absurd hc1 ?_; with_reducible assumption) | (refine absurd ?_ hc1; with_reducible assumption))
       all_goals (
        refine K_exit ?_
        refine N_then_exit ?_
        refine N_then_exit ?_
        refine N_block_exit ?_
        refine N_then_k ?_
        refine K_seq ?_
        refine K_region ?_
        refine W_assign rfl rfl ?_
        refine W_nil ?_
        refine N_then_k ?_
        refine K_ret ?_
        refine N_done1 (.inr rfl) rfl rfl ?_
        refine ⟨_, rfl, congrArg Value.bool ?_, hp.nil⟩
        first
          | (rw [all_not ‹s[k]? = some c› (by assumption)])
          | (rw [List.take_of_length_le ‹s.length ≤ k›] at ha; rw [ha])))

theorem all_token (s : List UInt8) (hl : s.length ≤ 9000000000000000000) : PureF Tryd.prog 32 [.string ⟨s.toArray⟩, .func (.func 33) #[] #[]] (.bool (s.all tokenB)) :=
  all_spec s _ tokenB (fun c => (token_spec c).toV) hl

theorem all_letter (s : List UInt8) (hl : s.length ≤ 9000000000000000000) : PureF Tryd.prog 32 [.string ⟨s.toArray⟩, .func (.func 49) #[] #[]] (.bool (s.all letterB)) :=
  all_spec s _ letterB (fun c => (letter_spec c).toV) hl

theorem all_digit (s : List UInt8) (hl : s.length ≤ 9000000000000000000) : PureF Tryd.prog 32 [.string ⟨s.toArray⟩, .func (.func 50) #[] #[]] (.bool (s.all digitB)) :=
  all_spec s _ digitB (fun c => (digit_spec c).toV) hl

theorem isToken_spec (s : List UInt8) (hl : s.length ≤ 9000000000000000000) : PureF Tryd.prog 24 [.string ⟨s.toArray⟩] (.bool (isToken s)) := by
  refine PureF.intro go24 Tryd.func24 rfl rfl fun w0 hp => ?_
  refine K_seq ?_
  refine K_region ?_
  refine W_assign rfl rfl ?_
  refine W_nil ?_
  refine N_then_k ?_
  refine K_seq ?_
  refine K_region ?_
  refine W_move rfl rfl ?_
  first
    | (refine W_sneq_f rfl rfl ?_ rfl ?_; (focus (first | rfl | assumption)))
    | (refine W_sneq_t rfl rfl ?_ rfl ?_; (focus (first | assumption | decide | exact List.cons_ne_nil _ _)))
    | (refine W_sneq rfl rfl rfl ?_)
  refine W_move rfl rfl ?_
  first
    | refine W_guard_lit_t rfl ?_
    | refine W_guard_lit_f rfl ?_
    | refine W_guard_lit_u rfl ?_
    | refine W_guard_split_d rfl rfl rfl (fun hg1 => ?_) (fun hg1 => ?_)
    | refine W_guard_split_n rfl rfl rfl (fun hg1 => ?_) (fun hg1 => ?_)
    | refine W_guard_split_nb rfl rfl rfl (fun hg1 => ?_) (fun hg1 => ?_)
    | refine W_guard_split rfl rfl rfl (fun hg1 => ?_) (fun hg1 => ?_)
  all_goals try (exfalso; first | omega | (simp only [Bool.false_eq_true, reduceCtorEq] at hg1; done) | (refine absurd hg1 ?_; with_reducible assumption) | (refine absurd ?_ hg1; with_reducible assumption))
  all_goals (
   first
     | (iterate 2 refine W_guard_no rfl rfl rfl ?_)
     | (iterate 2 refine W_guard_un rfl rfl ?_)
     | (refine W_guard_yes rfl ?_
        refine W_move rfl rfl ?_
        refine W_guard_yes rfl ?_
        refine W_pcall hp rfl (all_token s hl) rfl ?_
        clear hp; intro w hp)
   first
     | (refine W_pick_t rfl rfl rfl ?_)
     | (refine W_pick_f rfl rfl rfl ?_)
     | (refine W_pick_b rfl rfl rfl rfl ?_)
   refine W_assign rfl rfl ?_
   refine W_nil ?_
   refine N_then_k ?_
   refine K_ret ?_
   refine N_done1 (.inr rfl) rfl rfl ?_
   refine ⟨_, rfl, congrArg Value.bool ?_, hp.nil⟩
   cases s <;> simp_all [isToken])

/-- The row of bytes behind k rounds. -/
def lowAt (s : List UInt8) (zs : List Value) (k : Nat) : List Value := bytesV (lower (s.take k) ++ s.drop k) ++ zs
theorem lower_at {s : List UInt8} {k : Nat} {c : UInt8} (h : s[k]? = some c) (zs : List Value) : (lowAt s zs k)[k]? = some (.int .u8 (c.toNat : Int)) := by
  have hk := (List.getElem?_eq_some_iff.1 h).1
  unfold lowAt
  rw [List.getElem?_append_left (by simp [bytesV, lower]; omega)]
  apply bytesV_at
  rw [List.getElem?_append_right (by simp [lower]; omega)]
  simp [lower, Nat.min_eq_left (Nat.le_of_lt hk), h]
theorem lower_step {s : List UInt8} {k : Nat} {c : UInt8} (h : s[k]? = some c) (zs : List Value) : lowAt s zs k = bytesV (lower (s.take k)) ++ (.int .u8 (c.toNat : Int) :: (bytesV (s.drop (k + 1)) ++ zs)) ∧ lowAt s zs (k + 1) = bytesV (lower (s.take k)) ++ (.int .u8 ((lowerC c).toNat : Int) :: (bytesV (s.drop (k + 1)) ++ zs)) := by
  have hk := (List.getElem?_eq_some_iff.1 h).1
  have e1 : s.drop k = c :: s.drop (k + 1) := by rw [List.drop_eq_getElem_cons hk, (List.getElem?_eq_some_iff.1 h).2]
  have e2 : s.take (k + 1) = s.take k ++ [c] := by rw [List.take_add_one, h]; rfl
  unfold lowAt
  rw [e1, e2]
  simp [bytesV, lower]
theorem lower_set {s : List UInt8} {k : Nat} {c : UInt8} (h : s[k]? = some c) (zs : List Value) (hc : 65 ≤ c.toNat ∧ c.toNat ≤ 90) :
    (lowAt s zs k).take (0 + (k : Int).toNat * 1) ++ [Value.int .u8 ((c.toNat : Int) + 32)] ++ (lowAt s zs k).drop (0 + (k : Int).toNat * 1 + 1) = lowAt s zs (k + 1) := by
  obtain ⟨e1, e2⟩ := lower_step h zs
  have hk := (List.getElem?_eq_some_iff.1 h).1
  have hl : (bytesV (lower (s.take k))).length = k := by simp [bytesV, lower]; omega
  rw [e1, e2, lowerC_val, if_pos hc]
  simp only [Int.toNat_natCast, Nat.mul_one, Nat.zero_add]
  have hd : ∀ (A B : List Value) (x : Value), A.length = k → (A ++ x :: B).drop (k + 1) = B := by
    intro A B x h; subst h; rw [List.drop_append]; simp
  rw [List.take_left' hl, hd _ _ _ hl]
  simp
theorem lower_same {s : List UInt8} {k : Nat} {c : UInt8} (h : s[k]? = some c) (zs : List Value) (hc : ¬ (65 ≤ c.toNat ∧ c.toNat ≤ 90)) : lowAt s zs (k + 1) = lowAt s zs k := by
  obtain ⟨e1, e2⟩ := lower_step h zs
  rw [e1, e2, lowerC_val, if_neg hc]
theorem lower_pre {s : List UInt8} {k : Nat} {zs : List Value} (h : s.length ≤ k) : bytesV (lower s) <+: lowAt s zs k := by
  unfold lowAt
  rw [List.take_of_length_le h, List.drop_of_length_le h, List.append_nil]
  exact List.prefix_append _ _

theorem lower_spec (s : List UInt8) (hl : s.length ≤ 9000000000000000000) : PureF Tryd.prog 25 [.string ⟨s.toArray⟩] (.string ⟨(lower s).toArray⟩) := by
  refine PureF.intro go25 Tryd.func25 rfl rfl fun w0 hp => ?_
  refine K_seq ?_
  refine K_region ?_
  refine W_assign rfl rfl ?_
  refine W_nil ?_
  refine N_then_k ?_
  refine K_seq ?_
  refine K_region ?_
  refine W_move rfl rfl ?_
  refine W_conv_sb hp Tryd.underlying9 Tryd.underlying44 Tryd.underlying5 rfl (by omega) rfl ?_
  clear hp; intro b cp zs fz w hzs hcm hfz hp
  refine W_assign rfl rfl ?_
  refine W_nil ?_
  refine N_then_k ?_
  refine K_seq ?_
  refine K_seq ?_
  refine K_region ?_
  refine W_move rfl rfl ?_
  refine W_len_sl Tryd.underlying44 rfl rfl ?_
  refine W_move rfl rfl ?_
  refine W_nil ?_
  refine N_then_k ?_
  refine K_block ?_
  refine K_loop (σ := Nat) [4, 5, 10, 11, 12, 13, 14, 15, 16, 17, 18, 19, 20, 21, 22]
      (fun k => [(10, .int .i64 k)])
      (fun k w => k ≤ s.length ∧ Hp w0 [] [(b, .cells (lowAt s zs k).toArray 5 fz)] w)
      (fun k => s.length - k) (0) ?_ ?_ ?_
  · repeat' (first | exact sub_lst_nil (sub_nil _) | refine sub_lst rfl ?_ | (refine sub_lst_eq rfl ?_ ?_; · first | rfl | (simp; done) | (congr 1; omega)))
  · exact ⟨Nat.zero_le _, by simpa [lowAt, lower] using hp⟩
  · intro k w hJ
    clear hp
    obtain ⟨hle, hp⟩ := hJ
    rcases Nat.lt_or_ge k s.length with hlt | hge
    all_goals (
     refine K_seq ?_
     refine K_region ?_
     first
       | (refine W_lss_t rfl rfl ?_ rfl ?_; (focus (omega)))
       | (refine W_lss_f rfl rfl ?_ rfl ?_; (focus (omega)))
       | (refine W_lss rfl rfl rfl ?_)
     refine W_nil ?_
     refine N_then_k ?_
     refine K_seq ?_
     first
       | refine K_cond_d rfl (fun hc1 => ?_) (fun hc1 => ?_)
       | refine K_cond_n rfl (fun hc1 => ?_) (fun hc1 => ?_)
       | refine K_cond_nb rfl (fun hc1 => ?_) (fun hc1 => ?_)
       | refine K_cond_t rfl (fun hc1 => ?_) (fun hc1 => ?_)
     · try (exfalso; first | omega | (simp only [Bool.false_eq_true, reduceCtorEq] at hc1; done) | (refine absurd hc1 ?_; with_reducible assumption) | (refine absurd ?_ hc1; with_reducible assumption))
       all_goals (
        refine K_skip ?_
        refine N_then_k ?_
        refine K_seq ?_
        refine K_block ?_
        refine K_seq ?_
        refine K_region ?_
        refine W_move rfl rfl ?_
        obtain ⟨c, hc⟩ : ∃ c, s[k]? = some c := ⟨_, List.getElem?_eq_getElem hlt⟩
        have hu := c.toNat_lt
        have hcur := lower_at hc zs
        have hst := lower_set hc zs
        have hlv := lowerC_val c
        refine W_indexAddr_sl Tryd.underlying44 sz5 rfl rfl ?_ ?_ rfl ?_
        (focus (omega))
        (focus (first | omega | (simp; done) | (simp; omega)))
        refine W_load_s Tryd.underlying5 rfl rfl (by exact hp.cellF List.mem_cons_self (by simpa using hcur)) rfl ?_
        refine W_assign rfl rfl ?_
        refine W_assign rfl rfl ?_
        refine W_nil ?_
        refine N_then_k ?_
        refine K_seq ?_
        refine K_region ?_
        refine W_move rfl rfl ?_
        refine W_pcall hp rfl (within_spec _ _ _) rfl ?_
        clear hp; intro w hp
        refine W_nil ?_
        refine N_then_k ?_
        first
          | refine K_cond_d rfl (fun hc2 => ?_) (fun hc2 => ?_)
          | refine K_cond_n rfl (fun hc2 => ?_) (fun hc2 => ?_)
          | refine K_cond_nb rfl (fun hc2 => ?_) (fun hc2 => ?_)
          | refine K_cond_t rfl (fun hc2 => ?_) (fun hc2 => ?_)
        · try (exfalso; first | omega | (simp only [Bool.false_eq_true, reduceCtorEq] at hc2; done) | (refine absurd hc2 ?_; with_reducible assumption) | (refine absurd ?_ hc2; with_reducible assumption))
          all_goals (
           refine K_region ?_
           refine W_move rfl rfl ?_
           refine W_move rfl rfl ?_
           refine W_move rfl rfl ?_
           first
             | (refine W_add rfl rfl (wr_u8 ?_) rfl ?_; (focus (omega)))
             | (refine W_add rfl rfl rfl rfl ?_)
           refine W_indexAddr_sl Tryd.underlying44 sz5 rfl rfl ?_ ?_ rfl ?_
           (focus (omega))
           (focus (first | omega | (simp; done) | (simp; omega)))
           refine W_storeF (A := []) hp rfl sz5 rfl rfl rfl rfl ?_ (.inr ?_) (by intro v hv; obtain rfl := List.mem_singleton.1 hv; rfl) (hst (by omega)) ?_
           · simp [lowAt, bytesV, lower]; omega
           · simp; omega
           clear hp; intro w hp
           simp only [List.nil_append] at hp
           refine W_nil ?_
           refine N_block_normal ?_
           refine N_then_k ?_
           refine K_region ?_
           first
             | (refine W_add rfl rfl (wr_i64 ?_) rfl ?_; (focus (omega)))
             | (refine W_add rfl rfl rfl rfl ?_)
           refine W_move rfl rfl ?_
           refine W_nil ?_
           refine N_again (k + 1) (sub_end ?_ ?_) ?_ ?_
           · repeat' (first | exact sub_lst_nil (sub_nil _) | refine sub_lst rfl ?_ | (refine sub_lst_eq rfl ?_ ?_; · first | rfl | (simp; done) | (congr 1; omega)))
           · repeat' (first | exact sub_refl _ | exact sub_strip _ _ | refine sub_s_cons rfl ?_ | refine sub_s_lst rfl ?_ | refine sub_s_strip rfl ?_)
           · exact ⟨hlt, by first | exact hp | (rw [lower_same hc zs (by omega)]; exact hp)⟩
           · omega)
        · try (exfalso; first | omega | (simp only [Bool.false_eq_true, reduceCtorEq] at hc2; done) | (refine absurd hc2 ?_; with_reducible assumption) | (refine absurd ?_ hc2; with_reducible assumption))
          all_goals (
           refine K_skip ?_
           refine N_block_normal ?_
           refine N_then_k ?_
           refine K_region ?_
           first
             | (refine W_add rfl rfl (wr_i64 ?_) rfl ?_; (focus (omega)))
             | (refine W_add rfl rfl rfl rfl ?_)
           refine W_move rfl rfl ?_
           refine W_nil ?_
           refine N_again (k + 1) (sub_end ?_ ?_) ?_ ?_
           · repeat' (first | exact sub_lst_nil (sub_nil _) | refine sub_lst rfl ?_ | (refine sub_lst_eq rfl ?_ ?_; · first | rfl | (simp; done) | (congr 1; omega)))
           · repeat' (first | exact sub_refl _ | exact sub_strip _ _ | refine sub_s_cons rfl ?_ | refine sub_s_lst rfl ?_ | refine sub_s_strip rfl ?_)
           · exact ⟨hlt, by first | exact hp | (rw [lower_same hc zs (by omega)]; exact hp)⟩
           · omega))
     · try (exfalso; first | omega | (simp only [Bool.false_eq_true, reduceCtorEq] at hc1; done) | (refine absurd hc1 ?_; with_reducible assumption) | (refine absurd ?_ hc1; with_reducible assumption))
       all_goals (
        refine K_exit ?_
        refine N_then_exit ?_
        refine N_then_exit ?_
        refine N_block_exit ?_
        refine N_then_k ?_
        refine K_seq ?_
        refine K_region ?_
        refine W_move rfl rfl ?_
        refine W_conv_bs (a := lower s) Tryd.underlying44 Tryd.underlying5 Tryd.underlying9 rfl (Rd.own hp List.mem_cons_self ?_) (by simp [lower]) rfl ?_
        · exact lower_pre hge
        refine W_assign rfl rfl ?_
        refine W_nil ?_
        refine N_then_k ?_
        refine K_ret ?_
        refine N_done1 (.inr rfl) rfl rfl ?_
        exact ⟨_, rfl, rfl, hp.nil⟩))

theorem trimL_length (s : List UInt8) : (trimL s).length ≤ s.length := (List.dropWhile_sublist _).length_le
theorem nil_or_last (r : List UInt8) : r = [] ∨ ∃ c, r[((r.length : Int) - 1).toNat]? = some c ∧ 0 < r.length ∧ r ≠ [] := by
  rcases Nat.eq_zero_or_pos r.length with h | h
  · exact .inl (List.length_eq_zero_iff.1 h)
  · exact .inr ⟨_, List.getElem?_eq_getElem (by omega), h, fun e => by simp [e] at h⟩
theorem snoc_take {r : List UInt8} {c : UInt8} (h : r[((r.length : Int) - 1).toNat]? = some c) : r = r.take (r.length - 1) ++ [c] := by
  have e : ((r.length : Int) - 1).toNat = r.length - 1 := by omega
  rw [e] at h
  have hlt := (List.getElem?_eq_some_iff.1 h).1
  conv => lhs; rw [← List.take_append_drop (r.length - 1) r]
  rw [List.drop_eq_getElem_cons hlt, (List.getElem?_eq_some_iff.1 h).2, List.drop_of_length_le (by omega)]
theorem trimR_cut {r : List UInt8} {c : UInt8} (h : r[((r.length : Int) - 1).toNat]? = some c) (hb : blankB c = true) : trimR (r.take (r.length - 1)) = trimR r := by
  conv => rhs; rw [snoc_take h]
  rw [trimR_snoc_blank hb]
theorem trimR_end {r : List UInt8} {c : UInt8} (h : r[((r.length : Int) - 1).toNat]? = some c) (hb : blankB c = false) : trimR r = r := by
  rw [snoc_take h, trimR_snoc hb]

theorem trim_spec (s : List UInt8) (hl : s.length ≤ 9000000000000000000) : PureF Tryd.prog 31 [.string ⟨s.toArray⟩] (.string ⟨(trim s).toArray⟩) := by
  refine PureF.intro go31 Tryd.func31 rfl rfl fun w0 hp => ?_
  refine K_seq ?_
  refine K_region ?_
  refine W_assign rfl rfl ?_
  refine W_nil ?_
  refine N_then_k ?_
  refine K_mid (σ := Unit) [0, 3, 4, 5, 6, 7, 8, 9, 10, 11]
      (fun _ => [(0, .string ⟨(trimL s).toArray⟩)])
      (fun _ w => Hp w0 [] [] w) ?_ ?_
  · refine K_block ?_
    refine K_loop (σ := List UInt8) [0, 3, 4, 5, 6, 7, 8, 9, 10, 11]
        (fun r => [(0, .string ⟨r.toArray⟩)])
        (fun r w => Hp w0 [] [] w ∧ trimL r = trimL s)
        (fun r => r.length) (s) ?_ ?_ ?_
    · repeat' (first | exact sub_lst_nil (sub_nil _) | refine sub_lst rfl ?_ | (refine sub_lst_eq rfl ?_ ?_; · first | rfl | (simp; done) | (congr 1; omega)))
    · exact ⟨hp, rfl⟩
    · intro r w hJ
      clear hp
      obtain ⟨hp, ht⟩ := hJ
      rcases r with _ | ⟨c, r⟩
      all_goals (
       refine K_seq ?_
       refine K_seq ?_
       refine K_region ?_
       refine W_move rfl rfl ?_
       first
         | (refine W_sneq_f rfl rfl ?_ rfl ?_; (focus (first | rfl | assumption)))
         | (refine W_sneq_t rfl rfl ?_ rfl ?_; (focus (first | assumption | decide | exact List.cons_ne_nil _ _)))
         | (refine W_sneq rfl rfl rfl ?_)
       refine W_move rfl rfl ?_
       first
         | refine W_guard_lit_t rfl ?_
         | refine W_guard_lit_f rfl ?_
         | refine W_guard_lit_u rfl ?_
         | refine W_guard_split_d rfl rfl rfl (fun hg1 => ?_) (fun hg1 => ?_)
         | refine W_guard_split_n rfl rfl rfl (fun hg1 => ?_) (fun hg1 => ?_)
         | refine W_guard_split_nb rfl rfl rfl (fun hg1 => ?_) (fun hg1 => ?_)
         | refine W_guard_split rfl rfl rfl (fun hg1 => ?_) (fun hg1 => ?_)
       all_goals try (exfalso; first | omega | (simp only [Bool.false_eq_true, reduceCtorEq] at hg1; done) | (refine absurd hg1 ?_; with_reducible assumption) | (refine absurd ?_ hg1; with_reducible assumption))
       all_goals (
        first
          | (iterate 3 refine W_guard_no rfl rfl rfl ?_)
          | (iterate 3 refine W_guard_un rfl rfl ?_)
          | (refine W_guard_yes rfl ?_
             refine W_move rfl rfl ?_
             refine W_guard_yes rfl ?_
             refine W_index_s Tryd.underlying9 rfl rfl ?_ (by first | with_reducible assumption | assumption | exact rfl | exact idx_getD (by first | omega | (simp; omega))) rfl ?_
             (focus (omega))
             refine W_guard_yes rfl ?_
             refine W_pcall hp rfl (blank_spec _) rfl ?_
             clear hp; intro w hp)
        first
          | (refine W_pick_t rfl rfl rfl ?_)
          | (refine W_pick_f rfl rfl rfl ?_)
          | (refine W_pick_b rfl rfl rfl rfl ?_)
        refine W_nil ?_
        refine N_then_k ?_
        first
          | refine K_cond_d rfl (fun hc2 => ?_) (fun hc2 => ?_)
          | refine K_cond_n rfl (fun hc2 => ?_) (fun hc2 => ?_)
          | refine K_cond_nb rfl (fun hc2 => ?_) (fun hc2 => ?_)
          | refine K_cond_t rfl (fun hc2 => ?_) (fun hc2 => ?_)
        · try (exfalso; first | omega | (simp only [Bool.false_eq_true, reduceCtorEq] at hc2; done) | (refine absurd hc2 ?_; with_reducible assumption) | (refine absurd ?_ hc2; with_reducible assumption))
          all_goals (
           refine K_skip ?_
           refine N_then_k ?_
           refine K_block ?_
           refine K_region ?_
           refine W_move rfl rfl ?_
           refine W_slice_sl Tryd.underlying9 rfl rfl ?_ ?_ rfl ?_
           (focus (first | omega | (simp; omega) | (simp only [List.length_drop, List.length_take, List.length_append]; omega)))
           (focus (first | omega | (simp; omega) | (simp only [List.length_drop, List.length_take, List.length_append]; omega)))
           refine W_assign rfl rfl ?_
           refine W_nil ?_
           refine N_block_normal ?_
           refine N_again (r) (sub_end ?_ ?_) ?_ ?_
           · repeat' (first | exact sub_lst_nil (sub_nil _) | refine sub_lst rfl ?_ | (refine sub_lst_eq rfl ?_ ?_; · first | rfl | (simp; done) | (congr 1; omega)))
           · repeat' (first | exact sub_refl _ | exact sub_strip _ _ | refine sub_s_cons rfl ?_ | refine sub_s_lst rfl ?_ | refine sub_s_strip rfl ?_)
           · refine ⟨hp, ?_⟩
             rw [← ht, trimL_cons_blank (decide_eq_true (by assumption))]
           · simp)
        · try (exfalso; first | omega | (simp only [Bool.false_eq_true, reduceCtorEq] at hc2; done) | (refine absurd hc2 ?_; with_reducible assumption) | (refine absurd ?_ hc2; with_reducible assumption))
          all_goals (
           refine K_exit ?_
           refine N_then_exit ?_
           refine N_then_exit ?_
           refine N_block_exit ?_
           refine N_mid (()) (sub_end ?_ ?_) ?_
           · repeat' (first | exact sub_lst_nil (sub_nil _) | refine sub_lst rfl ?_ | (refine sub_lst_eq rfl ?_ ?_; · first | rfl | (first | (rw [← ht]; rfl) | (rw [← ht, trimL_cons (decide_eq_false (by assumption))])) | (simp; done) | (congr 1; omega)))
           · repeat' (first | exact sub_refl _ | exact sub_strip _ _ | refine sub_s_cons rfl ?_ | refine sub_s_lst rfl ?_ | refine sub_s_strip rfl ?_)
           · exact hp)))
  · intro _ w hJ
    have hp := hJ
    refine K_mid (σ := Unit) [0, 12, 13, 14, 15, 16, 17, 18, 19, 20, 21, 22, 23, 24, 25, 26]
        (fun _ => [(0, .string ⟨(trim s).toArray⟩)])
        (fun _ w => Hp w0 [] [] w) ?_ ?_
    · refine K_block ?_
      refine K_loop (σ := List UInt8) [0, 12, 13, 14, 15, 16, 17, 18, 19, 20, 21, 22, 23, 24, 25, 26]
          (fun r => [(0, .string ⟨r.toArray⟩)])
          (fun r w => Hp w0 [] [] w ∧ trimR r = trim s ∧ r.length ≤ s.length)
          (fun r => r.length) (trimL s) ?_ ?_ ?_
      · repeat' (first | exact sub_lst_nil (sub_nil _) | refine sub_lst rfl ?_ | (refine sub_lst_eq rfl ?_ ?_; · first | rfl | (simp; done) | (congr 1; omega)))
      · exact ⟨hp, rfl, trimL_length s⟩
      · intro r w hJ
        clear hp
        obtain ⟨hp, ht2, hle2⟩ := hJ
        rcases nil_or_last r with hr | ⟨c, hc, hpos, hr⟩
        all_goals (
         refine K_seq ?_
         refine K_seq ?_
         refine K_region ?_
         refine W_move rfl rfl ?_
         first
           | (refine W_sneq_f rfl rfl ?_ rfl ?_; (focus (first | rfl | assumption)))
           | (refine W_sneq_t rfl rfl ?_ rfl ?_; (focus (first | assumption | decide | exact List.cons_ne_nil _ _)))
           | (refine W_sneq rfl rfl rfl ?_)
         refine W_move rfl rfl ?_
         first
           | refine W_guard_lit_t rfl ?_
           | refine W_guard_lit_f rfl ?_
           | refine W_guard_lit_u rfl ?_
           | refine W_guard_split_d rfl rfl rfl (fun hg3 => ?_) (fun hg3 => ?_)
           | refine W_guard_split_n rfl rfl rfl (fun hg3 => ?_) (fun hg3 => ?_)
           | refine W_guard_split_nb rfl rfl rfl (fun hg3 => ?_) (fun hg3 => ?_)
           | refine W_guard_split rfl rfl rfl (fun hg3 => ?_) (fun hg3 => ?_)
         all_goals try (exfalso; first | omega | (simp only [Bool.false_eq_true, reduceCtorEq] at hg3; done) | (refine absurd hg3 ?_; with_reducible assumption) | (refine absurd ?_ hg3; with_reducible assumption))
         all_goals (
          first
            | (iterate 6 refine W_guard_no rfl rfl rfl ?_)
            | (iterate 6 refine W_guard_un rfl rfl ?_)
            | (refine W_guard_yes rfl ?_
               refine W_move rfl rfl ?_
               refine W_guard_yes rfl ?_
               refine W_move rfl rfl ?_
               refine W_guard_yes rfl ?_
               refine W_len_s Tryd.underlying9 rfl rfl ?_
               refine W_guard_yes rfl ?_
               first
                 | (refine W_sub rfl rfl (wr_i64 ?_) rfl ?_; (focus (omega)))
                 | (refine W_sub rfl rfl rfl rfl ?_)
               refine W_guard_yes rfl ?_
               refine W_index_s Tryd.underlying9 rfl rfl ?_ (by first | with_reducible assumption | assumption | exact rfl | exact idx_getD (by first | omega | (simp; omega))) rfl ?_
               (focus (omega))
               refine W_guard_yes rfl ?_
               refine W_pcall hp rfl (blank_spec _) rfl ?_
               clear hp; intro w hp)
          first
            | (refine W_pick_t rfl rfl rfl ?_)
            | (refine W_pick_f rfl rfl rfl ?_)
            | (refine W_pick_b rfl rfl rfl rfl ?_)
          refine W_nil ?_
          refine N_then_k ?_
          first
            | refine K_cond_d rfl (fun hc4 => ?_) (fun hc4 => ?_)
            | refine K_cond_n rfl (fun hc4 => ?_) (fun hc4 => ?_)
            | refine K_cond_nb rfl (fun hc4 => ?_) (fun hc4 => ?_)
            | refine K_cond_t rfl (fun hc4 => ?_) (fun hc4 => ?_)
          · try (exfalso; first | omega | (simp only [Bool.false_eq_true, reduceCtorEq] at hc4; done) | (refine absurd hc4 ?_; with_reducible assumption) | (refine absurd ?_ hc4; with_reducible assumption))
            all_goals (
             refine K_skip ?_
             refine N_then_k ?_
             refine K_block ?_
             refine K_region ?_
             refine W_move rfl rfl ?_
             refine W_move rfl rfl ?_
             refine W_len_s Tryd.underlying9 rfl rfl ?_
             first
               | (refine W_sub rfl rfl (wr_i64 ?_) rfl ?_; (focus (omega)))
               | (refine W_sub rfl rfl rfl rfl ?_)
             refine W_slice_sh Tryd.underlying9 rfl rfl ?_ ?_ rfl ?_
             (focus (first | omega | (simp; omega) | (simp only [List.length_drop, List.length_take, List.length_append]; omega)))
             (focus (first | omega | (simp; omega) | (simp only [List.length_drop, List.length_take, List.length_append]; omega)))
             refine W_assign rfl rfl ?_
             refine W_nil ?_
             refine N_block_normal ?_
             refine N_again (r.take (r.length - 1)) (sub_end ?_ ?_) ?_ ?_
             · repeat' (first | exact sub_lst_nil (sub_nil _) | refine sub_lst rfl ?_ | (refine sub_lst_eq rfl ?_ ?_; · first | rfl | (rw [show ((r.length : Int) - 1).toNat = r.length - 1 by omega]) | (simp; done) | (congr 1; omega)))
             · repeat' (first | exact sub_refl _ | exact sub_strip _ _ | refine sub_s_cons rfl ?_ | refine sub_s_lst rfl ?_ | refine sub_s_strip rfl ?_)
             · refine ⟨hp, ?_, by simp; omega⟩
               rw [← ht2, trimR_cut hc (decide_eq_true (by assumption))]
             · simp; omega)
          · try (exfalso; first | omega | (simp only [Bool.false_eq_true, reduceCtorEq] at hc4; done) | (refine absurd hc4 ?_; with_reducible assumption) | (refine absurd ?_ hc4; with_reducible assumption))
            all_goals (
             refine K_exit ?_
             refine N_then_exit ?_
             refine N_then_exit ?_
             refine N_block_exit ?_
             refine N_mid (()) (sub_end ?_ ?_) ?_
             · repeat' (first | exact sub_lst_nil (sub_nil _) | refine sub_lst rfl ?_ | (refine sub_lst_eq rfl ?_ ?_; · first | rfl | (first | (rw [← ht2, hr]; rfl) | (rw [← ht2, trimR_end hc (decide_eq_false (by assumption))])) | (simp; done) | (congr 1; omega)))
             · repeat' (first | exact sub_refl _ | exact sub_strip _ _ | refine sub_s_cons rfl ?_ | refine sub_s_lst rfl ?_ | refine sub_s_strip rfl ?_)
             · exact hp)))
    · intro _ w hJ
      have hp := hJ
      refine K_seq ?_
      refine K_region ?_
      refine W_move rfl rfl ?_
      refine W_assign rfl rfl ?_
      refine W_nil ?_
      refine N_then_k ?_
      refine K_ret ?_
      refine N_done1 (.inr rfl) rfl rfl ?_
      exact ⟨_, rfl, rfl, hp.nil⟩

theorem u8_all {p : UInt8 → Prop} (h : ∀ n : Fin 256, p (UInt8.ofNat n.val)) (c : UInt8) : p c := by
  have := h ⟨c.toNat, c.toNat_lt⟩
  simpa using this

theorem in_spec (c : UInt8) (s : List UInt8) (hl : s.length ≤ 9000000000000000000) : PureF Tryd.prog 22 [.int .u8 (c.toNat : Int), .string ⟨s.toArray⟩] (.bool (decide (c ∈ s))) := by
  refine PureF.intro go22 Tryd.func22 rfl rfl fun w0 hp => ?_
  refine K_seq ?_
  refine K_region ?_
  refine W_assign rfl rfl ?_
  refine W_nil ?_
  refine N_then_k ?_
  refine K_seq ?_
  refine K_seq ?_
  refine K_region ?_
  refine W_assign rfl rfl ?_
  refine W_nil ?_
  refine N_then_k ?_
  refine K_block ?_
  refine K_loop (σ := Nat) [4, 5, 6, 7, 8, 9, 10, 11, 12, 13, 14, 15, 16]
      (fun k => [(5, .int .i64 k)])
      (fun k w => Hp w0 [] [] w ∧ k ≤ s.length ∧ c ∉ s.take k)
      (fun k => s.length - k) (0) ?_ ?_ ?_
  · repeat' (first | exact sub_lst_nil (sub_nil _) | refine sub_lst rfl ?_ | (refine sub_lst_eq rfl ?_ ?_; · first | rfl | (simp; done) | (congr 1; omega)))
  · exact ⟨hp, Nat.zero_le _, by simp⟩
  · intro k w hJ
    clear hp
    obtain ⟨hp, hle, ha⟩ := hJ
    rcases Nat.lt_or_ge k (s.length) with hlt | hge
    all_goals (
     refine K_seq ?_
     refine K_seq ?_
     refine K_region ?_
     refine W_move rfl rfl ?_
     refine W_move rfl rfl ?_
     refine W_len_s Tryd.underlying9 rfl rfl ?_
     first
       | (refine W_lss_t rfl rfl ?_ rfl ?_; (focus (omega)))
       | (refine W_lss_f rfl rfl ?_ rfl ?_; (focus (omega)))
       | (refine W_lss rfl rfl rfl ?_)
     refine W_nil ?_
     refine N_then_k ?_
     first
       | refine K_cond_d rfl (fun hc1 => ?_) (fun hc1 => ?_)
       | refine K_cond_n rfl (fun hc1 => ?_) (fun hc1 => ?_)
       | refine K_cond_nb rfl (fun hc1 => ?_) (fun hc1 => ?_)
       | refine K_cond_t rfl (fun hc1 => ?_) (fun hc1 => ?_)
     · try (exfalso; first | omega | (simp only [Bool.false_eq_true, reduceCtorEq] at hc1; done) | (refine absurd hc1 ?_; with_reducible assumption) | (refine absurd ?_ hc1; with_reducible assumption))
       all_goals (
        refine K_skip ?_
        refine N_then_k ?_
        refine K_seq ?_
        refine K_block ?_
        refine K_seq ?_
        refine K_region ?_
        obtain ⟨x, hc⟩ : ∃ c, s[k]? = some c := ⟨_, List.getElem?_eq_getElem hlt⟩
        refine W_move rfl rfl ?_
        refine W_move rfl rfl ?_
        refine W_index_s Tryd.underlying9 rfl rfl ?_ (by first | with_reducible assumption | assumption | exact rfl | exact idx_getD (by first | omega | (simp; omega))) rfl ?_
        (focus (omega))
        refine W_move rfl rfl ?_
        first
          | (refine W_eql_t rfl rfl ?_ rfl ?_; (focus (omega)))
          | (refine W_eql_f rfl rfl ?_ rfl ?_; (focus (omega)))
          | (refine W_eql rfl rfl rfl ?_)
        refine W_nil ?_
        refine N_then_k ?_
        first
          | refine K_cond_d rfl (fun hc2 => ?_) (fun hc2 => ?_)
          | refine K_cond_n rfl (fun hc2 => ?_) (fun hc2 => ?_)
          | refine K_cond_nb rfl (fun hc2 => ?_) (fun hc2 => ?_)
          | refine K_cond_t rfl (fun hc2 => ?_) (fun hc2 => ?_)
        · try (exfalso; first | omega | (simp only [Bool.false_eq_true, reduceCtorEq] at hc2; done) | (refine absurd hc2 ?_; with_reducible assumption) | (refine absurd ?_ hc2; with_reducible assumption))
          all_goals (
           refine K_seq ?_
           refine K_region ?_
           refine W_assign rfl rfl ?_
           refine W_nil ?_
           refine N_then_k ?_
           refine K_ret ?_
           refine N_block_ret ?_
           refine N_then_ret ?_
           refine N_then_ret ?_
           refine N_block_ret ?_
           refine N_then_ret ?_
           refine N_done1 (.inr rfl) rfl rfl ?_
           refine ⟨_, rfl, congrArg Value.bool ?_, hp.nil⟩
           first
             | (rw [decide_eq_true]; have e : x = c := UInt8.toNat_inj.1 (by omega); subst e; exact List.mem_of_getElem? hc)
             | (rw [List.take_of_length_le hge] at ha; rw [decide_eq_false ha]))
        · try (exfalso; first | omega | (simp only [Bool.false_eq_true, reduceCtorEq] at hc2; done) | (refine absurd hc2 ?_; with_reducible assumption) | (refine absurd ?_ hc2; with_reducible assumption))
          all_goals (
           refine K_skip ?_
           refine N_block_normal ?_
           refine N_then_k ?_
           refine K_region ?_
           refine W_move rfl rfl ?_
           first
             | (refine W_add rfl rfl (wr_i64 ?_) rfl ?_; (focus (omega)))
             | (refine W_add rfl rfl rfl rfl ?_)
           refine W_assign rfl rfl ?_
           refine W_nil ?_
           refine N_again (k + 1) (sub_end ?_ ?_) ?_ ?_
           · repeat' (first | exact sub_lst_nil (sub_nil _) | refine sub_lst rfl ?_ | (refine sub_lst_eq rfl ?_ ?_; · first | rfl | (simp; done) | (congr 1; omega)))
           · repeat' (first | exact sub_refl _ | exact sub_strip _ _ | refine sub_s_cons rfl ?_ | refine sub_s_lst rfl ?_ | refine sub_s_strip rfl ?_)
           · refine ⟨hp, hlt, ?_⟩
             rw [List.take_add_one, hc]
             simp only [Option.toList_some, List.mem_append, List.mem_singleton, not_or]
             refine ⟨ha, fun e => ?_⟩
             subst e; omega
           · omega))
     · try (exfalso; first | omega | (simp only [Bool.false_eq_true, reduceCtorEq] at hc1; done) | (refine absurd hc1 ?_; with_reducible assumption) | (refine absurd ?_ hc1; with_reducible assumption))
       all_goals (
        refine K_exit ?_
        refine N_then_exit ?_
        refine N_then_exit ?_
        refine N_block_exit ?_
        refine N_then_k ?_
        refine K_seq ?_
        refine K_region ?_
        refine W_assign rfl rfl ?_
        refine W_nil ?_
        refine N_then_k ?_
        refine K_ret ?_
        refine N_done1 (.inr rfl) rfl rfl ?_
        refine ⟨_, rfl, congrArg Value.bool ?_, hp.nil⟩
        first
          | (rw [decide_eq_true]; have e : x = c := UInt8.toNat_inj.1 (by omega); subst e; exact List.mem_of_getElem? hc)
          | (rw [List.take_of_length_le hge] at ha; rw [decide_eq_false ha])))

theorem letters_spec  : PureF Tryd.prog 45 [] (.string ⟨[65, 66, 67, 68, 69, 70, 71, 72, 73, 74, 75, 76, 77, 78, 79, 80, 81, 82, 83, 84, 85, 86, 87, 88, 89, 90, 97, 98, 99, 100, 101, 102, 103, 104, 105, 106, 107, 108, 109, 110, 111, 112, 113, 114, 115, 116, 117, 118, 119, 120, 121, 122].toArray⟩) := by
  refine PureF.intro go45 Tryd.func45 rfl rfl fun w0 hp => ?_
  refine K_seq ?_
  refine K_region ?_
  refine W_assign rfl rfl ?_
  refine W_nil ?_
  refine N_then_k ?_
  refine K_seq ?_
  refine K_region ?_
  refine W_assign rfl rfl ?_
  refine W_nil ?_
  refine N_then_k ?_
  refine K_ret ?_
  refine N_done1 (.inr rfl) rfl rfl ?_
  exact ⟨_, rfl, rfl, hp.nil⟩

theorem in_letters (c : UInt8) : Value.bool (decide (c ∈ ([65, 66, 67, 68, 69, 70, 71, 72, 73, 74, 75, 76, 77, 78, 79, 80, 81, 82, 83, 84, 85, 86, 87, 88, 89, 90, 97, 98, 99, 100, 101, 102, 103, 104, 105, 106, 107, 108, 109, 110, 111, 112, 113, 114, 115, 116, 117, 118, 119, 120, 121, 122] : List UInt8))) = .bool (decide (LetterP c.toNat)) := congrArg Value.bool (u8_all (p := fun c => decide (c ∈ ([65, 66, 67, 68, 69, 70, 71, 72, 73, 74, 75, 76, 77, 78, 79, 80, 81, 82, 83, 84, 85, 86, 87, 88, 89, 90, 97, 98, 99, 100, 101, 102, 103, 104, 105, 106, 107, 108, 109, 110, 111, 112, 113, 114, 115, 116, 117, 118, 119, 120, 121, 122] : List UInt8)) = decide (LetterP c.toNat)) (by decide +kernel) c)

theorem in_digits (c : UInt8) : Value.bool (decide (c ∈ ([48, 49, 50, 51, 52, 53, 54, 55, 56, 57] : List UInt8))) = .bool (decide (DigitP c.toNat)) := congrArg Value.bool (u8_all (p := fun c => decide (c ∈ ([48, 49, 50, 51, 52, 53, 54, 55, 56, 57] : List UInt8)) = decide (DigitP c.toNat)) (by decide +kernel) c)

theorem in_class2 : ∀ c : UInt8, (LetterP c.toNat ∨ DigitP c.toNat ∨ c ∈ ([33, 35, 36, 37, 38, 39, 42, 43, 45, 46, 94, 95, 96, 124, 126] : List UInt8)) ↔ TokenP c.toNat := u8_all (by decide +kernel)

theorem in_class3 : ∀ c : UInt8, (LetterP c.toNat ∨ DigitP c.toNat ∨ c ∈ ([45, 46, 95, 126] : List UInt8)) ↔ UnresP c.toNat := u8_all (by decide +kernel)

theorem in_class4 : ∀ c : UInt8, (LetterP c.toNat ∨ DigitP c.toNat ∨ c ∈ ([45, 46, 95, 126, 33, 36, 38, 39, 40, 41, 42, 43, 44, 59, 61, 58, 64] : List UInt8)) ↔ PathP c.toNat := u8_all (by decide +kernel)

theorem class1_spec (c : UInt8) : PureF Tryd.prog 39 [.int .u8 (c.toNat : Int), .int .i64 1] (.bool (decide (DigitP c.toNat))) := by
  have hu := c.toNat_lt
  refine PureF.intro go39 Tryd.func39 rfl rfl fun w0 hp => ?_
  refine K_seq ?_
  refine K_region ?_
  refine W_assign rfl rfl ?_
  refine W_nil ?_
  refine N_then_k ?_
  refine K_seq ?_
  refine K_region ?_
  refine W_move rfl rfl ?_
  refine W_pcall hp rfl (letters_spec) rfl ?_
  clear hp; intro w hp
  refine W_pcall hp rfl ((in_spec c [65, 66, 67, 68, 69, 70, 71, 72, 73, 74, 75, 76, 77, 78, 79, 80, 81, 82, 83, 84, 85, 86, 87, 88, 89, 90, 97, 98, 99, 100, 101, 102, 103, 104, 105, 106, 107, 108, 109, 110, 111, 112, 113, 114, 115, 116, 117, 118, 119, 120, 121, 122] (by decide)).eq (in_letters c)) rfl ?_
  clear hp; intro w hp
  refine W_assign rfl rfl ?_
  refine W_nil ?_
  refine N_then_k ?_
  refine K_seq ?_
  refine K_region ?_
  refine W_move rfl rfl ?_
  refine W_pcall hp rfl ((in_spec c [48, 49, 50, 51, 52, 53, 54, 55, 56, 57] (by decide)).eq (in_digits c)) rfl ?_
  clear hp; intro w hp
  refine W_assign rfl rfl ?_
  refine W_nil ?_
  refine N_then_k ?_
  refine K_seq ?_
  refine K_seq ?_
  refine K_region ?_
  refine W_move rfl rfl ?_
  refine W_nil ?_
  refine N_then_k ?_
  refine K_block ?_
  refine K_seq ?_
  refine K_region ?_
  first
    | (refine W_eql_t rfl rfl ?_ rfl ?_; (focus (omega)))
    | (refine W_eql_f rfl rfl ?_ rfl ?_; (focus (omega)))
    | (refine W_eql rfl rfl rfl ?_)
  refine W_assign rfl rfl ?_
  refine W_nil ?_
  refine N_then_k ?_
  first
    | refine K_cond_d rfl (fun hc1 => ?_) (fun hc1 => ?_)
    | refine K_cond_n rfl (fun hc1 => ?_) (fun hc1 => ?_)
    | refine K_cond_nb rfl (fun hc1 => ?_) (fun hc1 => ?_)
    | refine K_cond_t rfl (fun hc1 => ?_) (fun hc1 => ?_)
  · try (exfalso; first | omega | (simp only [Bool.false_eq_true, reduceCtorEq] at hc1; done) | (refine absurd hc1 ?_; with_reducible assumption) | (refine absurd ?_ hc1; with_reducible assumption))
    all_goals (
     refine K_seq ?_
     refine K_region ?_
     refine W_move rfl rfl ?_
     refine W_assign rfl rfl ?_
     refine W_nil ?_
     refine N_then_k ?_
     refine K_ret ?_
     refine N_block_ret ?_
     refine N_then_ret ?_
     refine N_done1 (.inr rfl) rfl rfl ?_
     refine ⟨_, rfl, congrArg Value.bool ?_, hp.nil⟩
     first
       | rfl
       | (refine Bool.eq_iff_iff.2 ?_; simp only [Bool.not_eq_true', decide_eq_true_eq, decide_eq_false_iff_not]; omega)
       | (refine (decide_eq_true ?_).symm; first | omega | (rw [← hcl]; first | exact Or.inl (by assumption) | exact Or.inr (Or.inl (by assumption)) | (constructor <;> intro h <;> first | exact Or.inr (Or.inr h) | (rcases h with h | h | h <;> first | exact h | contradiction))))
       | (refine (decide_eq_false ?_).symm; first | omega | (rw [← hcl]; first | exact Or.inl (by assumption) | exact Or.inr (Or.inl (by assumption)) | (constructor <;> intro h <;> first | exact Or.inr (Or.inr h) | (rcases h with h | h | h <;> first | exact h | contradiction))))
       | (refine decide_eq_decide.2 ?_; first | omega | (rw [← hcl]; first | exact Or.inl (by assumption) | exact Or.inr (Or.inl (by assumption)) | (constructor <;> intro h <;> first | exact Or.inr (Or.inr h) | (rcases h with h | h | h <;> first | exact h | contradiction)))))
  · try (exfalso; first | omega | (simp only [Bool.false_eq_true, reduceCtorEq] at hc1; done) | (refine absurd hc1 ?_; with_reducible assumption) | (refine absurd ?_ hc1; with_reducible assumption))
    all_goals (
     refine K_seq ?_
     refine K_region ?_
     first
       | (refine W_eql_t rfl rfl ?_ rfl ?_; (focus (omega)))
       | (refine W_eql_f rfl rfl ?_ rfl ?_; (focus (omega)))
       | (refine W_eql rfl rfl rfl ?_)
     refine W_assign rfl rfl ?_
     refine W_nil ?_
     refine N_then_k ?_
     first
       | refine K_cond_d rfl (fun hc2 => ?_) (fun hc2 => ?_)
       | refine K_cond_n rfl (fun hc2 => ?_) (fun hc2 => ?_)
       | refine K_cond_nb rfl (fun hc2 => ?_) (fun hc2 => ?_)
       | refine K_cond_t rfl (fun hc2 => ?_) (fun hc2 => ?_)
     · try (exfalso; first | omega | (simp only [Bool.false_eq_true, reduceCtorEq] at hc2; done) | (refine absurd hc2 ?_; with_reducible assumption) | (refine absurd ?_ hc2; with_reducible assumption))
       all_goals (
        refine K_seq ?_
        refine K_region ?_
        refine W_move rfl rfl ?_
        refine W_assign rfl rfl ?_
        refine W_nil ?_
        refine N_then_k ?_
        refine K_ret ?_
        refine N_block_ret ?_
        refine N_then_ret ?_
        refine N_done1 (.inr rfl) rfl rfl ?_
        refine ⟨_, rfl, congrArg Value.bool ?_, hp.nil⟩
        first
          | rfl
          | (refine Bool.eq_iff_iff.2 ?_; simp only [Bool.not_eq_true', decide_eq_true_eq, decide_eq_false_iff_not]; omega)
          | (refine (decide_eq_true ?_).symm; first | omega | (rw [← hcl]; first | exact Or.inl (by assumption) | exact Or.inr (Or.inl (by assumption)) | (constructor <;> intro h <;> first | exact Or.inr (Or.inr h) | (rcases h with h | h | h <;> first | exact h | contradiction))))
          | (refine (decide_eq_false ?_).symm; first | omega | (rw [← hcl]; first | exact Or.inl (by assumption) | exact Or.inr (Or.inl (by assumption)) | (constructor <;> intro h <;> first | exact Or.inr (Or.inr h) | (rcases h with h | h | h <;> first | exact h | contradiction))))
          | (refine decide_eq_decide.2 ?_; first | omega | (rw [← hcl]; first | exact Or.inl (by assumption) | exact Or.inr (Or.inl (by assumption)) | (constructor <;> intro h <;> first | exact Or.inr (Or.inr h) | (rcases h with h | h | h <;> first | exact h | contradiction)))))
     · try (exfalso; first | omega | (simp only [Bool.false_eq_true, reduceCtorEq] at hc2; done) | (refine absurd hc2 ?_; with_reducible assumption) | (refine absurd ?_ hc2; with_reducible assumption))
       all_goals (
        refine K_seq ?_
        refine K_region ?_
        first
          | (refine W_eql_t rfl rfl ?_ rfl ?_; (focus (omega)))
          | (refine W_eql_f rfl rfl ?_ rfl ?_; (focus (omega)))
          | (refine W_eql rfl rfl rfl ?_)
        refine W_assign rfl rfl ?_
        refine W_nil ?_
        refine N_then_k ?_
        first
          | refine K_cond_d rfl (fun hc3 => ?_) (fun hc3 => ?_)
          | refine K_cond_n rfl (fun hc3 => ?_) (fun hc3 => ?_)
          | refine K_cond_nb rfl (fun hc3 => ?_) (fun hc3 => ?_)
          | refine K_cond_t rfl (fun hc3 => ?_) (fun hc3 => ?_)
        · try (exfalso; first | omega | (simp only [Bool.false_eq_true, reduceCtorEq] at hc3; done) | (refine absurd hc3 ?_; with_reducible assumption) | (refine absurd ?_ hc3; with_reducible assumption))
          all_goals (
           refine K_seq ?_
           refine K_region ?_
           refine W_move rfl rfl ?_
           refine W_move rfl rfl ?_
           first
             | refine W_guard_lit_t rfl ?_
             | refine W_guard_lit_f rfl ?_
             | refine W_guard_lit_u rfl ?_
             | refine W_guard_split_d rfl rfl rfl (fun hg4 => ?_) (fun hg4 => ?_)
             | refine W_guard_split_n rfl rfl rfl (fun hg4 => ?_) (fun hg4 => ?_)
             | refine W_guard_split_nb rfl rfl rfl (fun hg4 => ?_) (fun hg4 => ?_)
             | refine W_guard_split rfl rfl rfl (fun hg4 => ?_) (fun hg4 => ?_)
           all_goals try (exfalso; first | omega | (simp only [Bool.false_eq_true, reduceCtorEq] at hg4; done) | (refine absurd hg4 ?_; with_reducible assumption) | (refine absurd ?_ hg4; with_reducible assumption))
           all_goals (
            first
              | (refine W_guard_no rfl rfl rfl ?_)
              | (refine W_guard_un rfl rfl ?_)
              | (refine W_guard_yes rfl ?_
                 refine W_move rfl rfl ?_)
            first
              | (refine W_pick_t rfl rfl rfl ?_)
              | (refine W_pick_f rfl rfl rfl ?_)
              | (refine W_pick_b rfl rfl rfl rfl ?_)
            refine W_move rfl rfl ?_
            first
              | refine W_guard_lit_t rfl ?_
              | refine W_guard_lit_f rfl ?_
              | refine W_guard_lit_u rfl ?_
              | refine W_guard_split_d rfl rfl rfl (fun hg5 => ?_) (fun hg5 => ?_)
              | refine W_guard_split_n rfl rfl rfl (fun hg5 => ?_) (fun hg5 => ?_)
              | refine W_guard_split_nb rfl rfl rfl (fun hg5 => ?_) (fun hg5 => ?_)
              | refine W_guard_split rfl rfl rfl (fun hg5 => ?_) (fun hg5 => ?_)
            all_goals try (exfalso; first | omega | (simp only [Bool.false_eq_true, reduceCtorEq] at hg5; done) | (refine absurd hg5 ?_; with_reducible assumption) | (refine absurd ?_ hg5; with_reducible assumption))
            all_goals (
             first
               | (iterate 2 refine W_guard_no rfl rfl rfl ?_)
               | (iterate 2 refine W_guard_un rfl rfl ?_)
               | (refine W_guard_yes rfl ?_
                  refine W_move rfl rfl ?_
                  refine W_guard_yes rfl ?_
                  refine W_pcall hp rfl (in_spec c [33, 35, 36, 37, 38, 39, 42, 43, 45, 46, 94, 95, 96, 124, 126] (by decide)) rfl ?_
                  clear hp; intro w hp)
             first
               | (refine W_pick_t rfl rfl rfl ?_)
               | (refine W_pick_f rfl rfl rfl ?_)
               | (refine W_pick_b rfl rfl rfl rfl ?_)
             refine W_assign rfl rfl ?_
             refine W_nil ?_
             refine N_then_k ?_
             refine K_ret ?_
             refine N_block_ret ?_
             refine N_then_ret ?_
             refine N_done1 (.inr rfl) rfl rfl ?_
             refine ⟨_, rfl, congrArg Value.bool ?_, hp.nil⟩
             first
               | rfl
               | (refine Bool.eq_iff_iff.2 ?_; simp only [Bool.not_eq_true', decide_eq_true_eq, decide_eq_false_iff_not]; omega)
               | (refine (decide_eq_true ?_).symm; first | omega | (rw [← hcl]; first | exact Or.inl (by assumption) | exact Or.inr (Or.inl (by assumption)) | (constructor <;> intro h <;> first | exact Or.inr (Or.inr h) | (rcases h with h | h | h <;> first | exact h | contradiction))))
               | (refine (decide_eq_false ?_).symm; first | omega | (rw [← hcl]; first | exact Or.inl (by assumption) | exact Or.inr (Or.inl (by assumption)) | (constructor <;> intro h <;> first | exact Or.inr (Or.inr h) | (rcases h with h | h | h <;> first | exact h | contradiction))))
               | (refine decide_eq_decide.2 ?_; first | omega | (rw [← hcl]; first | exact Or.inl (by assumption) | exact Or.inr (Or.inl (by assumption)) | (constructor <;> intro h <;> first | exact Or.inr (Or.inr h) | (rcases h with h | h | h <;> first | exact h | contradiction)))))))
        · try (exfalso; first | omega | (simp only [Bool.false_eq_true, reduceCtorEq] at hc3; done) | (refine absurd hc3 ?_; with_reducible assumption) | (refine absurd ?_ hc3; with_reducible assumption))
          all_goals (
           refine K_seq ?_
           refine K_region ?_
           first
             | (refine W_eql_t rfl rfl ?_ rfl ?_; (focus (omega)))
             | (refine W_eql_f rfl rfl ?_ rfl ?_; (focus (omega)))
             | (refine W_eql rfl rfl rfl ?_)
           refine W_assign rfl rfl ?_
           refine W_nil ?_
           refine N_then_k ?_
           first
             | refine K_cond_d rfl (fun hc6 => ?_) (fun hc6 => ?_)
             | refine K_cond_n rfl (fun hc6 => ?_) (fun hc6 => ?_)
             | refine K_cond_nb rfl (fun hc6 => ?_) (fun hc6 => ?_)
             | refine K_cond_t rfl (fun hc6 => ?_) (fun hc6 => ?_)
           · try (exfalso; first | omega | (simp only [Bool.false_eq_true, reduceCtorEq] at hc6; done) | (refine absurd hc6 ?_; with_reducible assumption) | (refine absurd ?_ hc6; with_reducible assumption))
             all_goals (
              refine K_seq ?_
              refine K_region ?_
              refine W_move rfl rfl ?_
              refine W_move rfl rfl ?_
              first
                | refine W_guard_lit_t rfl ?_
                | refine W_guard_lit_f rfl ?_
                | refine W_guard_lit_u rfl ?_
                | refine W_guard_split_d rfl rfl rfl (fun hg7 => ?_) (fun hg7 => ?_)
                | refine W_guard_split_n rfl rfl rfl (fun hg7 => ?_) (fun hg7 => ?_)
                | refine W_guard_split_nb rfl rfl rfl (fun hg7 => ?_) (fun hg7 => ?_)
                | refine W_guard_split rfl rfl rfl (fun hg7 => ?_) (fun hg7 => ?_)
              all_goals try (exfalso; first | omega | (simp only [Bool.false_eq_true, reduceCtorEq] at hg7; done) | (refine absurd hg7 ?_; with_reducible assumption) | (refine absurd ?_ hg7; with_reducible assumption))
              all_goals (
               first
                 | (refine W_guard_no rfl rfl rfl ?_)
                 | (refine W_guard_un rfl rfl ?_)
                 | (refine W_guard_yes rfl ?_
                    refine W_move rfl rfl ?_)
               first
                 | (refine W_pick_t rfl rfl rfl ?_)
                 | (refine W_pick_f rfl rfl rfl ?_)
                 | (refine W_pick_b rfl rfl rfl rfl ?_)
               refine W_move rfl rfl ?_
               first
                 | refine W_guard_lit_t rfl ?_
                 | refine W_guard_lit_f rfl ?_
                 | refine W_guard_lit_u rfl ?_
                 | refine W_guard_split_d rfl rfl rfl (fun hg8 => ?_) (fun hg8 => ?_)
                 | refine W_guard_split_n rfl rfl rfl (fun hg8 => ?_) (fun hg8 => ?_)
                 | refine W_guard_split_nb rfl rfl rfl (fun hg8 => ?_) (fun hg8 => ?_)
                 | refine W_guard_split rfl rfl rfl (fun hg8 => ?_) (fun hg8 => ?_)
               all_goals try (exfalso; first | omega | (simp only [Bool.false_eq_true, reduceCtorEq] at hg8; done) | (refine absurd hg8 ?_; with_reducible assumption) | (refine absurd ?_ hg8; with_reducible assumption))
               all_goals (
                first
                  | (iterate 2 refine W_guard_no rfl rfl rfl ?_)
                  | (iterate 2 refine W_guard_un rfl rfl ?_)
                  | (refine W_guard_yes rfl ?_
                     refine W_move rfl rfl ?_
                     refine W_guard_yes rfl ?_
                     refine W_pcall hp rfl (in_spec c [45, 46, 95, 126] (by decide)) rfl ?_
                     clear hp; intro w hp)
                first
                  | (refine W_pick_t rfl rfl rfl ?_)
                  | (refine W_pick_f rfl rfl rfl ?_)
                  | (refine W_pick_b rfl rfl rfl rfl ?_)
                refine W_assign rfl rfl ?_
                refine W_nil ?_
                refine N_then_k ?_
                refine K_ret ?_
                refine N_block_ret ?_
                refine N_then_ret ?_
                refine N_done1 (.inr rfl) rfl rfl ?_
                refine ⟨_, rfl, congrArg Value.bool ?_, hp.nil⟩
                first
                  | rfl
                  | (refine Bool.eq_iff_iff.2 ?_; simp only [Bool.not_eq_true', decide_eq_true_eq, decide_eq_false_iff_not]; omega)
                  | (refine (decide_eq_true ?_).symm; first | omega | (rw [← hcl]; first | exact Or.inl (by assumption) | exact Or.inr (Or.inl (by assumption)) | (constructor <;> intro h <;> first | exact Or.inr (Or.inr h) | (rcases h with h | h | h <;> first | exact h | contradiction))))
                  | (refine (decide_eq_false ?_).symm; first | omega | (rw [← hcl]; first | exact Or.inl (by assumption) | exact Or.inr (Or.inl (by assumption)) | (constructor <;> intro h <;> first | exact Or.inr (Or.inr h) | (rcases h with h | h | h <;> first | exact h | contradiction))))
                  | (refine decide_eq_decide.2 ?_; first | omega | (rw [← hcl]; first | exact Or.inl (by assumption) | exact Or.inr (Or.inl (by assumption)) | (constructor <;> intro h <;> first | exact Or.inr (Or.inr h) | (rcases h with h | h | h <;> first | exact h | contradiction)))))))
           · try (exfalso; first | omega | (simp only [Bool.false_eq_true, reduceCtorEq] at hc6; done) | (refine absurd hc6 ?_; with_reducible assumption) | (refine absurd ?_ hc6; with_reducible assumption))
             all_goals (
              refine K_seq ?_
              refine K_region ?_
              first
                | (refine W_eql_t rfl rfl ?_ rfl ?_; (focus (omega)))
                | (refine W_eql_f rfl rfl ?_ rfl ?_; (focus (omega)))
                | (refine W_eql rfl rfl rfl ?_)
              refine W_assign rfl rfl ?_
              refine W_nil ?_
              refine N_then_k ?_
              first
                | refine K_cond_d rfl (fun hc9 => ?_) (fun hc9 => ?_)
                | refine K_cond_n rfl (fun hc9 => ?_) (fun hc9 => ?_)
                | refine K_cond_nb rfl (fun hc9 => ?_) (fun hc9 => ?_)
                | refine K_cond_t rfl (fun hc9 => ?_) (fun hc9 => ?_)
              · try (exfalso; first | omega | (simp only [Bool.false_eq_true, reduceCtorEq] at hc9; done) | (refine absurd hc9 ?_; with_reducible assumption) | (refine absurd ?_ hc9; with_reducible assumption))
                all_goals (
                 refine K_seq ?_
                 refine K_region ?_
                 refine W_move rfl rfl ?_
                 refine W_move rfl rfl ?_
                 first
                   | refine W_guard_lit_t rfl ?_
                   | refine W_guard_lit_f rfl ?_
                   | refine W_guard_lit_u rfl ?_
                   | refine W_guard_split_d rfl rfl rfl (fun hg10 => ?_) (fun hg10 => ?_)
                   | refine W_guard_split_n rfl rfl rfl (fun hg10 => ?_) (fun hg10 => ?_)
                   | refine W_guard_split_nb rfl rfl rfl (fun hg10 => ?_) (fun hg10 => ?_)
                   | refine W_guard_split rfl rfl rfl (fun hg10 => ?_) (fun hg10 => ?_)
                 all_goals try (exfalso; first | omega | (simp only [Bool.false_eq_true, reduceCtorEq] at hg10; done) | (refine absurd hg10 ?_; with_reducible assumption) | (refine absurd ?_ hg10; with_reducible assumption))
                 all_goals (
                  first
                    | (refine W_guard_no rfl rfl rfl ?_)
                    | (refine W_guard_un rfl rfl ?_)
                    | (refine W_guard_yes rfl ?_
                       refine W_move rfl rfl ?_)
                  first
                    | (refine W_pick_t rfl rfl rfl ?_)
                    | (refine W_pick_f rfl rfl rfl ?_)
                    | (refine W_pick_b rfl rfl rfl rfl ?_)
                  refine W_move rfl rfl ?_
                  first
                    | refine W_guard_lit_t rfl ?_
                    | refine W_guard_lit_f rfl ?_
                    | refine W_guard_lit_u rfl ?_
                    | refine W_guard_split_d rfl rfl rfl (fun hg11 => ?_) (fun hg11 => ?_)
                    | refine W_guard_split_n rfl rfl rfl (fun hg11 => ?_) (fun hg11 => ?_)
                    | refine W_guard_split_nb rfl rfl rfl (fun hg11 => ?_) (fun hg11 => ?_)
                    | refine W_guard_split rfl rfl rfl (fun hg11 => ?_) (fun hg11 => ?_)
                  all_goals try (exfalso; first | omega | (simp only [Bool.false_eq_true, reduceCtorEq] at hg11; done) | (refine absurd hg11 ?_; with_reducible assumption) | (refine absurd ?_ hg11; with_reducible assumption))
                  all_goals (
                   first
                     | (iterate 2 refine W_guard_no rfl rfl rfl ?_)
                     | (iterate 2 refine W_guard_un rfl rfl ?_)
                     | (refine W_guard_yes rfl ?_
                        refine W_move rfl rfl ?_
                        refine W_guard_yes rfl ?_
                        refine W_pcall hp rfl (in_spec c [45, 46, 95, 126, 33, 36, 38, 39, 40, 41, 42, 43, 44, 59, 61, 58, 64] (by decide)) rfl ?_
                        clear hp; intro w hp)
                   first
                     | (refine W_pick_t rfl rfl rfl ?_)
                     | (refine W_pick_f rfl rfl rfl ?_)
                     | (refine W_pick_b rfl rfl rfl rfl ?_)
                   refine W_assign rfl rfl ?_
                   refine W_nil ?_
                   refine N_then_k ?_
                   refine K_ret ?_
                   refine N_block_ret ?_
                   refine N_then_ret ?_
                   refine N_done1 (.inr rfl) rfl rfl ?_
                   refine ⟨_, rfl, congrArg Value.bool ?_, hp.nil⟩
                   first
                     | rfl
                     | (refine Bool.eq_iff_iff.2 ?_; simp only [Bool.not_eq_true', decide_eq_true_eq, decide_eq_false_iff_not]; omega)
                     | (refine (decide_eq_true ?_).symm; first | omega | (rw [← hcl]; first | exact Or.inl (by assumption) | exact Or.inr (Or.inl (by assumption)) | (constructor <;> intro h <;> first | exact Or.inr (Or.inr h) | (rcases h with h | h | h <;> first | exact h | contradiction))))
                     | (refine (decide_eq_false ?_).symm; first | omega | (rw [← hcl]; first | exact Or.inl (by assumption) | exact Or.inr (Or.inl (by assumption)) | (constructor <;> intro h <;> first | exact Or.inr (Or.inr h) | (rcases h with h | h | h <;> first | exact h | contradiction))))
                     | (refine decide_eq_decide.2 ?_; first | omega | (rw [← hcl]; first | exact Or.inl (by assumption) | exact Or.inr (Or.inl (by assumption)) | (constructor <;> intro h <;> first | exact Or.inr (Or.inr h) | (rcases h with h | h | h <;> first | exact h | contradiction)))))))
              · try (exfalso; first | omega | (simp only [Bool.false_eq_true, reduceCtorEq] at hc9; done) | (refine absurd hc9 ?_; with_reducible assumption) | (refine absurd ?_ hc9; with_reducible assumption))
                all_goals (
                 refine K_skip ?_
                 refine N_block_normal ?_
                 refine N_then_k ?_
                 refine K_seq ?_
                 refine K_region ?_
                 refine W_move rfl rfl ?_
                 first
                   | (refine W_eql_t rfl rfl ?_ rfl ?_; (focus (omega)))
                   | (refine W_eql_f rfl rfl ?_ rfl ?_; (focus (omega)))
                   | (refine W_eql rfl rfl rfl ?_)
                 refine W_move rfl rfl ?_
                 first
                   | refine W_guard_lit_t rfl ?_
                   | refine W_guard_lit_f rfl ?_
                   | refine W_guard_lit_u rfl ?_
                   | refine W_guard_split_d rfl rfl rfl (fun hg12 => ?_) (fun hg12 => ?_)
                   | refine W_guard_split_n rfl rfl rfl (fun hg12 => ?_) (fun hg12 => ?_)
                   | refine W_guard_split_nb rfl rfl rfl (fun hg12 => ?_) (fun hg12 => ?_)
                   | refine W_guard_split rfl rfl rfl (fun hg12 => ?_) (fun hg12 => ?_)
                 all_goals try (exfalso; first | omega | (simp only [Bool.false_eq_true, reduceCtorEq] at hg12; done) | (refine absurd hg12 ?_; with_reducible assumption) | (refine absurd ?_ hg12; with_reducible assumption))
                 all_goals (
                  first
                    | (iterate 3 refine W_guard_no rfl rfl rfl ?_)
                    | (iterate 3 refine W_guard_un rfl rfl ?_)
                    | (refine W_guard_yes rfl ?_
                       refine W_move rfl rfl ?_
                       refine W_guard_yes rfl ?_
                       first
                         | (refine W_geq_t rfl rfl ?_ rfl ?_; (focus (omega)))
                         | (refine W_geq_f rfl rfl ?_ rfl ?_; (focus (omega)))
                         | (refine W_geq rfl rfl rfl ?_)
                       refine W_guard_yes rfl ?_
                       refine W_move rfl rfl ?_)
                  first
                    | refine W_guard_lit_t rfl ?_
                    | refine W_guard_lit_f rfl ?_
                    | refine W_guard_lit_u rfl ?_
                    | refine W_guard_split_d rfl rfl rfl (fun hg13 => ?_) (fun hg13 => ?_)
                    | refine W_guard_split_n rfl rfl rfl (fun hg13 => ?_) (fun hg13 => ?_)
                    | refine W_guard_split_nb rfl rfl rfl (fun hg13 => ?_) (fun hg13 => ?_)
                    | refine W_guard_split rfl rfl rfl (fun hg13 => ?_) (fun hg13 => ?_)
                  all_goals try (exfalso; first | omega | (simp only [Bool.false_eq_true, reduceCtorEq] at hg13; done) | (refine absurd hg13 ?_; with_reducible assumption) | (refine absurd ?_ hg13; with_reducible assumption))
                  all_goals (
                   first
                     | (iterate 2 refine W_guard_no rfl rfl rfl ?_)
                     | (iterate 2 refine W_guard_un rfl rfl ?_)
                     | (refine W_guard_yes rfl ?_
                        refine W_move rfl rfl ?_
                        refine W_guard_yes rfl ?_
                        first
                          | (refine W_neq_t rfl rfl ?_ rfl ?_; (focus (omega)))
                          | (refine W_neq_f rfl rfl ?_ rfl ?_; (focus (omega)))
                          | (refine W_neq rfl rfl rfl ?_))
                   first
                     | (refine W_guard_no rfl rfl rfl ?_)
                     | (refine W_guard_un rfl rfl ?_)
                     | (refine W_guard_yes rfl ?_
                        first
                          | (refine W_pick_t rfl rfl rfl ?_)
                          | (refine W_pick_f rfl rfl rfl ?_)
                          | (refine W_pick_b rfl rfl rfl rfl ?_))
                   first
                     | (refine W_pick_t rfl rfl rfl ?_)
                     | (refine W_pick_f rfl rfl rfl ?_)
                     | (refine W_pick_b rfl rfl rfl rfl ?_)
                   refine W_assign rfl rfl ?_
                   refine W_nil ?_
                   refine N_then_k ?_
                   refine K_ret ?_
                   refine N_done1 (.inr rfl) rfl rfl ?_
                   refine ⟨_, rfl, congrArg Value.bool ?_, hp.nil⟩
                   first
                     | rfl
                     | (refine Bool.eq_iff_iff.2 ?_; simp only [Bool.not_eq_true', decide_eq_true_eq, decide_eq_false_iff_not]; omega)
                     | (refine (decide_eq_true ?_).symm; first | omega | (rw [← hcl]; first | exact Or.inl (by assumption) | exact Or.inr (Or.inl (by assumption)) | (constructor <;> intro h <;> first | exact Or.inr (Or.inr h) | (rcases h with h | h | h <;> first | exact h | contradiction))))
                     | (refine (decide_eq_false ?_).symm; first | omega | (rw [← hcl]; first | exact Or.inl (by assumption) | exact Or.inr (Or.inl (by assumption)) | (constructor <;> intro h <;> first | exact Or.inr (Or.inr h) | (rcases h with h | h | h <;> first | exact h | contradiction))))
                     | (refine decide_eq_decide.2 ?_; first | omega | (rw [← hcl]; first | exact Or.inl (by assumption) | exact Or.inr (Or.inl (by assumption)) | (constructor <;> intro h <;> first | exact Or.inr (Or.inr h) | (rcases h with h | h | h <;> first | exact h | contradiction)))))))))))

theorem class2_spec (c : UInt8) : PureF Tryd.prog 39 [.int .u8 (c.toNat : Int), .int .i64 2] (.bool (decide (TokenP c.toNat))) := by
  have hu := c.toNat_lt
  have hcl := in_class2 c
  refine PureF.intro go39 Tryd.func39 rfl rfl fun w0 hp => ?_
  refine K_seq ?_
  refine K_region ?_
  refine W_assign rfl rfl ?_
  refine W_nil ?_
  refine N_then_k ?_
  refine K_seq ?_
  refine K_region ?_
  refine W_move rfl rfl ?_
  refine W_pcall hp rfl (letters_spec) rfl ?_
  clear hp; intro w hp
  refine W_pcall hp rfl ((in_spec c [65, 66, 67, 68, 69, 70, 71, 72, 73, 74, 75, 76, 77, 78, 79, 80, 81, 82, 83, 84, 85, 86, 87, 88, 89, 90, 97, 98, 99, 100, 101, 102, 103, 104, 105, 106, 107, 108, 109, 110, 111, 112, 113, 114, 115, 116, 117, 118, 119, 120, 121, 122] (by decide)).eq (in_letters c)) rfl ?_
  clear hp; intro w hp
  refine W_assign rfl rfl ?_
  refine W_nil ?_
  refine N_then_k ?_
  refine K_seq ?_
  refine K_region ?_
  refine W_move rfl rfl ?_
  refine W_pcall hp rfl ((in_spec c [48, 49, 50, 51, 52, 53, 54, 55, 56, 57] (by decide)).eq (in_digits c)) rfl ?_
  clear hp; intro w hp
  refine W_assign rfl rfl ?_
  refine W_nil ?_
  refine N_then_k ?_
  refine K_seq ?_
  refine K_seq ?_
  refine K_region ?_
  refine W_move rfl rfl ?_
  refine W_nil ?_
  refine N_then_k ?_
  refine K_block ?_
  refine K_seq ?_
  refine K_region ?_
  first
    | (refine W_eql_t rfl rfl ?_ rfl ?_; (focus (omega)))
    | (refine W_eql_f rfl rfl ?_ rfl ?_; (focus (omega)))
    | (refine W_eql rfl rfl rfl ?_)
  refine W_assign rfl rfl ?_
  refine W_nil ?_
  refine N_then_k ?_
  first
    | refine K_cond_d rfl (fun hc1 => ?_) (fun hc1 => ?_)
    | refine K_cond_n rfl (fun hc1 => ?_) (fun hc1 => ?_)
    | refine K_cond_nb rfl (fun hc1 => ?_) (fun hc1 => ?_)
    | refine K_cond_t rfl (fun hc1 => ?_) (fun hc1 => ?_)
  · try (exfalso; first | omega | (simp only [Bool.false_eq_true, reduceCtorEq] at hc1; done) | (refine absurd hc1 ?_; with_reducible assumption) | (refine absurd ?_ hc1; with_reducible assumption))
    all_goals (
     refine K_seq ?_
     refine K_region ?_
     refine W_move rfl rfl ?_
     refine W_assign rfl rfl ?_
     refine W_nil ?_
     refine N_then_k ?_
     refine K_ret ?_
     refine N_block_ret ?_
     refine N_then_ret ?_
     refine N_done1 (.inr rfl) rfl rfl ?_
     refine ⟨_, rfl, congrArg Value.bool ?_, hp.nil⟩
     first
       | rfl
       | (refine Bool.eq_iff_iff.2 ?_; simp only [Bool.not_eq_true', decide_eq_true_eq, decide_eq_false_iff_not]; omega)
       | (refine (decide_eq_true ?_).symm; first | omega | (rw [← hcl]; first | exact Or.inl (by assumption) | exact Or.inr (Or.inl (by assumption)) | (constructor <;> intro h <;> first | exact Or.inr (Or.inr h) | (rcases h with h | h | h <;> first | exact h | contradiction))))
       | (refine (decide_eq_false ?_).symm; first | omega | (rw [← hcl]; first | exact Or.inl (by assumption) | exact Or.inr (Or.inl (by assumption)) | (constructor <;> intro h <;> first | exact Or.inr (Or.inr h) | (rcases h with h | h | h <;> first | exact h | contradiction))))
       | (refine decide_eq_decide.2 ?_; first | omega | (rw [← hcl]; first | exact Or.inl (by assumption) | exact Or.inr (Or.inl (by assumption)) | (constructor <;> intro h <;> first | exact Or.inr (Or.inr h) | (rcases h with h | h | h <;> first | exact h | contradiction)))))
  · try (exfalso; first | omega | (simp only [Bool.false_eq_true, reduceCtorEq] at hc1; done) | (refine absurd hc1 ?_; with_reducible assumption) | (refine absurd ?_ hc1; with_reducible assumption))
    all_goals (
     refine K_seq ?_
     refine K_region ?_
     first
       | (refine W_eql_t rfl rfl ?_ rfl ?_; (focus (omega)))
       | (refine W_eql_f rfl rfl ?_ rfl ?_; (focus (omega)))
       | (refine W_eql rfl rfl rfl ?_)
     refine W_assign rfl rfl ?_
     refine W_nil ?_
     refine N_then_k ?_
     first
       | refine K_cond_d rfl (fun hc2 => ?_) (fun hc2 => ?_)
       | refine K_cond_n rfl (fun hc2 => ?_) (fun hc2 => ?_)
       | refine K_cond_nb rfl (fun hc2 => ?_) (fun hc2 => ?_)
       | refine K_cond_t rfl (fun hc2 => ?_) (fun hc2 => ?_)
     · try (exfalso; first | omega | (simp only [Bool.false_eq_true, reduceCtorEq] at hc2; done) | (refine absurd hc2 ?_; with_reducible assumption) | (refine absurd ?_ hc2; with_reducible assumption))
       all_goals (
        refine K_seq ?_
        refine K_region ?_
        refine W_move rfl rfl ?_
        refine W_assign rfl rfl ?_
        refine W_nil ?_
        refine N_then_k ?_
        refine K_ret ?_
        refine N_block_ret ?_
        refine N_then_ret ?_
        refine N_done1 (.inr rfl) rfl rfl ?_
        refine ⟨_, rfl, congrArg Value.bool ?_, hp.nil⟩
        first
          | rfl
          | (refine Bool.eq_iff_iff.2 ?_; simp only [Bool.not_eq_true', decide_eq_true_eq, decide_eq_false_iff_not]; omega)
          | (refine (decide_eq_true ?_).symm; first | omega | (rw [← hcl]; first | exact Or.inl (by assumption) | exact Or.inr (Or.inl (by assumption)) | (constructor <;> intro h <;> first | exact Or.inr (Or.inr h) | (rcases h with h | h | h <;> first | exact h | contradiction))))
          | (refine (decide_eq_false ?_).symm; first | omega | (rw [← hcl]; first | exact Or.inl (by assumption) | exact Or.inr (Or.inl (by assumption)) | (constructor <;> intro h <;> first | exact Or.inr (Or.inr h) | (rcases h with h | h | h <;> first | exact h | contradiction))))
          | (refine decide_eq_decide.2 ?_; first | omega | (rw [← hcl]; first | exact Or.inl (by assumption) | exact Or.inr (Or.inl (by assumption)) | (constructor <;> intro h <;> first | exact Or.inr (Or.inr h) | (rcases h with h | h | h <;> first | exact h | contradiction)))))
     · try (exfalso; first | omega | (simp only [Bool.false_eq_true, reduceCtorEq] at hc2; done) | (refine absurd hc2 ?_; with_reducible assumption) | (refine absurd ?_ hc2; with_reducible assumption))
       all_goals (
        refine K_seq ?_
        refine K_region ?_
        first
          | (refine W_eql_t rfl rfl ?_ rfl ?_; (focus (omega)))
          | (refine W_eql_f rfl rfl ?_ rfl ?_; (focus (omega)))
          | (refine W_eql rfl rfl rfl ?_)
        refine W_assign rfl rfl ?_
        refine W_nil ?_
        refine N_then_k ?_
        first
          | refine K_cond_d rfl (fun hc3 => ?_) (fun hc3 => ?_)
          | refine K_cond_n rfl (fun hc3 => ?_) (fun hc3 => ?_)
          | refine K_cond_nb rfl (fun hc3 => ?_) (fun hc3 => ?_)
          | refine K_cond_t rfl (fun hc3 => ?_) (fun hc3 => ?_)
        · try (exfalso; first | omega | (simp only [Bool.false_eq_true, reduceCtorEq] at hc3; done) | (refine absurd hc3 ?_; with_reducible assumption) | (refine absurd ?_ hc3; with_reducible assumption))
          all_goals (
           refine K_seq ?_
           refine K_region ?_
           refine W_move rfl rfl ?_
           refine W_move rfl rfl ?_
           first
             | refine W_guard_lit_t rfl ?_
             | refine W_guard_lit_f rfl ?_
             | refine W_guard_lit_u rfl ?_
             | refine W_guard_split_d rfl rfl rfl (fun hg4 => ?_) (fun hg4 => ?_)
             | refine W_guard_split_n rfl rfl rfl (fun hg4 => ?_) (fun hg4 => ?_)
             | refine W_guard_split_nb rfl rfl rfl (fun hg4 => ?_) (fun hg4 => ?_)
             | refine W_guard_split rfl rfl rfl (fun hg4 => ?_) (fun hg4 => ?_)
           all_goals try (exfalso; first | omega | (simp only [Bool.false_eq_true, reduceCtorEq] at hg4; done) | (refine absurd hg4 ?_; with_reducible assumption) | (refine absurd ?_ hg4; with_reducible assumption))
           all_goals (
            first
              | (refine W_guard_no rfl rfl rfl ?_)
              | (refine W_guard_un rfl rfl ?_)
              | (refine W_guard_yes rfl ?_
                 refine W_move rfl rfl ?_)
            first
              | (refine W_pick_t rfl rfl rfl ?_)
              | (refine W_pick_f rfl rfl rfl ?_)
              | (refine W_pick_b rfl rfl rfl rfl ?_)
            refine W_move rfl rfl ?_
            first
              | refine W_guard_lit_t rfl ?_
              | refine W_guard_lit_f rfl ?_
              | refine W_guard_lit_u rfl ?_
              | refine W_guard_split_d rfl rfl rfl (fun hg5 => ?_) (fun hg5 => ?_)
              | refine W_guard_split_n rfl rfl rfl (fun hg5 => ?_) (fun hg5 => ?_)
              | refine W_guard_split_nb rfl rfl rfl (fun hg5 => ?_) (fun hg5 => ?_)
              | refine W_guard_split rfl rfl rfl (fun hg5 => ?_) (fun hg5 => ?_)
            all_goals try (exfalso; first | omega | (simp only [Bool.false_eq_true, reduceCtorEq] at hg5; done) | (refine absurd hg5 ?_; with_reducible assumption) | (refine absurd ?_ hg5; with_reducible assumption))
            all_goals (
             first
               | (iterate 2 refine W_guard_no rfl rfl rfl ?_)
               | (iterate 2 refine W_guard_un rfl rfl ?_)
               | (refine W_guard_yes rfl ?_
                  refine W_move rfl rfl ?_
                  refine W_guard_yes rfl ?_
                  refine W_pcall hp rfl (in_spec c [33, 35, 36, 37, 38, 39, 42, 43, 45, 46, 94, 95, 96, 124, 126] (by decide)) rfl ?_
                  clear hp; intro w hp)
             first
               | (refine W_pick_t rfl rfl rfl ?_)
               | (refine W_pick_f rfl rfl rfl ?_)
               | (refine W_pick_b rfl rfl rfl rfl ?_)
             refine W_assign rfl rfl ?_
             refine W_nil ?_
             refine N_then_k ?_
             refine K_ret ?_
             refine N_block_ret ?_
             refine N_then_ret ?_
             refine N_done1 (.inr rfl) rfl rfl ?_
             refine ⟨_, rfl, congrArg Value.bool ?_, hp.nil⟩
             first
               | rfl
               | (refine Bool.eq_iff_iff.2 ?_; simp only [Bool.not_eq_true', decide_eq_true_eq, decide_eq_false_iff_not]; omega)
               | (refine (decide_eq_true ?_).symm; first | omega | (rw [← hcl]; first | exact Or.inl (by assumption) | exact Or.inr (Or.inl (by assumption)) | (constructor <;> intro h <;> first | exact Or.inr (Or.inr h) | (rcases h with h | h | h <;> first | exact h | contradiction))))
               | (refine (decide_eq_false ?_).symm; first | omega | (rw [← hcl]; first | exact Or.inl (by assumption) | exact Or.inr (Or.inl (by assumption)) | (constructor <;> intro h <;> first | exact Or.inr (Or.inr h) | (rcases h with h | h | h <;> first | exact h | contradiction))))
               | (refine decide_eq_decide.2 ?_; first | omega | (rw [← hcl]; first | exact Or.inl (by assumption) | exact Or.inr (Or.inl (by assumption)) | (constructor <;> intro h <;> first | exact Or.inr (Or.inr h) | (rcases h with h | h | h <;> first | exact h | contradiction)))))))
        · try (exfalso; first | omega | (simp only [Bool.false_eq_true, reduceCtorEq] at hc3; done) | (refine absurd hc3 ?_; with_reducible assumption) | (refine absurd ?_ hc3; with_reducible assumption))
          all_goals (
           refine K_seq ?_
           refine K_region ?_
           first
             | (refine W_eql_t rfl rfl ?_ rfl ?_; (focus (omega)))
             | (refine W_eql_f rfl rfl ?_ rfl ?_; (focus (omega)))
             | (refine W_eql rfl rfl rfl ?_)
           refine W_assign rfl rfl ?_
           refine W_nil ?_
           refine N_then_k ?_
           first
             | refine K_cond_d rfl (fun hc6 => ?_) (fun hc6 => ?_)
             | refine K_cond_n rfl (fun hc6 => ?_) (fun hc6 => ?_)
             | refine K_cond_nb rfl (fun hc6 => ?_) (fun hc6 => ?_)
             | refine K_cond_t rfl (fun hc6 => ?_) (fun hc6 => ?_)
           · try (exfalso; first | omega | (simp only [Bool.false_eq_true, reduceCtorEq] at hc6; done) | (refine absurd hc6 ?_; with_reducible assumption) | (refine absurd ?_ hc6; with_reducible assumption))
             all_goals (
              refine K_seq ?_
              refine K_region ?_
              refine W_move rfl rfl ?_
              refine W_move rfl rfl ?_
              first
                | refine W_guard_lit_t rfl ?_
                | refine W_guard_lit_f rfl ?_
                | refine W_guard_lit_u rfl ?_
                | refine W_guard_split_d rfl rfl rfl (fun hg7 => ?_) (fun hg7 => ?_)
                | refine W_guard_split_n rfl rfl rfl (fun hg7 => ?_) (fun hg7 => ?_)
                | refine W_guard_split_nb rfl rfl rfl (fun hg7 => ?_) (fun hg7 => ?_)
                | refine W_guard_split rfl rfl rfl (fun hg7 => ?_) (fun hg7 => ?_)
              all_goals try (exfalso; first | omega | (simp only [Bool.false_eq_true, reduceCtorEq] at hg7; done) | (refine absurd hg7 ?_; with_reducible assumption) | (refine absurd ?_ hg7; with_reducible assumption))
              all_goals (
               first
                 | (refine W_guard_no rfl rfl rfl ?_)
                 | (refine W_guard_un rfl rfl ?_)
                 | (refine W_guard_yes rfl ?_
                    refine W_move rfl rfl ?_)
               first
                 | (refine W_pick_t rfl rfl rfl ?_)
                 | (refine W_pick_f rfl rfl rfl ?_)
                 | (refine W_pick_b rfl rfl rfl rfl ?_)
               refine W_move rfl rfl ?_
               first
                 | refine W_guard_lit_t rfl ?_
                 | refine W_guard_lit_f rfl ?_
                 | refine W_guard_lit_u rfl ?_
                 | refine W_guard_split_d rfl rfl rfl (fun hg8 => ?_) (fun hg8 => ?_)
                 | refine W_guard_split_n rfl rfl rfl (fun hg8 => ?_) (fun hg8 => ?_)
                 | refine W_guard_split_nb rfl rfl rfl (fun hg8 => ?_) (fun hg8 => ?_)
                 | refine W_guard_split rfl rfl rfl (fun hg8 => ?_) (fun hg8 => ?_)
               all_goals try (exfalso; first | omega | (simp only [Bool.false_eq_true, reduceCtorEq] at hg8; done) | (refine absurd hg8 ?_; with_reducible assumption) | (refine absurd ?_ hg8; with_reducible assumption))
               all_goals (
                first
                  | (iterate 2 refine W_guard_no rfl rfl rfl ?_)
                  | (iterate 2 refine W_guard_un rfl rfl ?_)
                  | (refine W_guard_yes rfl ?_
                     refine W_move rfl rfl ?_
                     refine W_guard_yes rfl ?_
                     refine W_pcall hp rfl (in_spec c [45, 46, 95, 126] (by decide)) rfl ?_
                     clear hp; intro w hp)
                first
                  | (refine W_pick_t rfl rfl rfl ?_)
                  | (refine W_pick_f rfl rfl rfl ?_)
                  | (refine W_pick_b rfl rfl rfl rfl ?_)
                refine W_assign rfl rfl ?_
                refine W_nil ?_
                refine N_then_k ?_
                refine K_ret ?_
                refine N_block_ret ?_
                refine N_then_ret ?_
                refine N_done1 (.inr rfl) rfl rfl ?_
                refine ⟨_, rfl, congrArg Value.bool ?_, hp.nil⟩
                first
                  | rfl
                  | (refine Bool.eq_iff_iff.2 ?_; simp only [Bool.not_eq_true', decide_eq_true_eq, decide_eq_false_iff_not]; omega)
                  | (refine (decide_eq_true ?_).symm; first | omega | (rw [← hcl]; first | exact Or.inl (by assumption) | exact Or.inr (Or.inl (by assumption)) | (constructor <;> intro h <;> first | exact Or.inr (Or.inr h) | (rcases h with h | h | h <;> first | exact h | contradiction))))
                  | (refine (decide_eq_false ?_).symm; first | omega | (rw [← hcl]; first | exact Or.inl (by assumption) | exact Or.inr (Or.inl (by assumption)) | (constructor <;> intro h <;> first | exact Or.inr (Or.inr h) | (rcases h with h | h | h <;> first | exact h | contradiction))))
                  | (refine decide_eq_decide.2 ?_; first | omega | (rw [← hcl]; first | exact Or.inl (by assumption) | exact Or.inr (Or.inl (by assumption)) | (constructor <;> intro h <;> first | exact Or.inr (Or.inr h) | (rcases h with h | h | h <;> first | exact h | contradiction)))))))
           · try (exfalso; first | omega | (simp only [Bool.false_eq_true, reduceCtorEq] at hc6; done) | (refine absurd hc6 ?_; with_reducible assumption) | (refine absurd ?_ hc6; with_reducible assumption))
             all_goals (
              refine K_seq ?_
              refine K_region ?_
              first
                | (refine W_eql_t rfl rfl ?_ rfl ?_; (focus (omega)))
                | (refine W_eql_f rfl rfl ?_ rfl ?_; (focus (omega)))
                | (refine W_eql rfl rfl rfl ?_)
              refine W_assign rfl rfl ?_
              refine W_nil ?_
              refine N_then_k ?_
              first
                | refine K_cond_d rfl (fun hc9 => ?_) (fun hc9 => ?_)
                | refine K_cond_n rfl (fun hc9 => ?_) (fun hc9 => ?_)
                | refine K_cond_nb rfl (fun hc9 => ?_) (fun hc9 => ?_)
                | refine K_cond_t rfl (fun hc9 => ?_) (fun hc9 => ?_)
              · try (exfalso; first | omega | (simp only [Bool.false_eq_true, reduceCtorEq] at hc9; done) | (refine absurd hc9 ?_; with_reducible assumption) | (refine absurd ?_ hc9; with_reducible assumption))
                all_goals (
                 refine K_seq ?_
                 refine K_region ?_
                 refine W_move rfl rfl ?_
                 refine W_move rfl rfl ?_
                 first
                   | refine W_guard_lit_t rfl ?_
                   | refine W_guard_lit_f rfl ?_
                   | refine W_guard_lit_u rfl ?_
                   | refine W_guard_split_d rfl rfl rfl (fun hg10 => ?_) (fun hg10 => ?_)
                   | refine W_guard_split_n rfl rfl rfl (fun hg10 => ?_) (fun hg10 => ?_)
                   | refine W_guard_split_nb rfl rfl rfl (fun hg10 => ?_) (fun hg10 => ?_)
                   | refine W_guard_split rfl rfl rfl (fun hg10 => ?_) (fun hg10 => ?_)
                 all_goals try (exfalso; first | omega | (simp only [Bool.false_eq_true, reduceCtorEq] at hg10; done) | (refine absurd hg10 ?_; with_reducible assumption) | (refine absurd ?_ hg10; with_reducible assumption))
                 all_goals (
                  first
                    | (refine W_guard_no rfl rfl rfl ?_)
                    | (refine W_guard_un rfl rfl ?_)
                    | (refine W_guard_yes rfl ?_
                       refine W_move rfl rfl ?_)
                  first
                    | (refine W_pick_t rfl rfl rfl ?_)
                    | (refine W_pick_f rfl rfl rfl ?_)
                    | (refine W_pick_b rfl rfl rfl rfl ?_)
                  refine W_move rfl rfl ?_
                  first
                    | refine W_guard_lit_t rfl ?_
                    | refine W_guard_lit_f rfl ?_
                    | refine W_guard_lit_u rfl ?_
                    | refine W_guard_split_d rfl rfl rfl (fun hg11 => ?_) (fun hg11 => ?_)
                    | refine W_guard_split_n rfl rfl rfl (fun hg11 => ?_) (fun hg11 => ?_)
                    | refine W_guard_split_nb rfl rfl rfl (fun hg11 => ?_) (fun hg11 => ?_)
                    | refine W_guard_split rfl rfl rfl (fun hg11 => ?_) (fun hg11 => ?_)
                  all_goals try (exfalso; first | omega | (simp only [Bool.false_eq_true, reduceCtorEq] at hg11; done) | (refine absurd hg11 ?_; with_reducible assumption) | (refine absurd ?_ hg11; with_reducible assumption))
                  all_goals (
                   first
                     | (iterate 2 refine W_guard_no rfl rfl rfl ?_)
                     | (iterate 2 refine W_guard_un rfl rfl ?_)
                     | (refine W_guard_yes rfl ?_
                        refine W_move rfl rfl ?_
                        refine W_guard_yes rfl ?_
                        refine W_pcall hp rfl (in_spec c [45, 46, 95, 126, 33, 36, 38, 39, 40, 41, 42, 43, 44, 59, 61, 58, 64] (by decide)) rfl ?_
                        clear hp; intro w hp)
                   first
                     | (refine W_pick_t rfl rfl rfl ?_)
                     | (refine W_pick_f rfl rfl rfl ?_)
                     | (refine W_pick_b rfl rfl rfl rfl ?_)
                   refine W_assign rfl rfl ?_
                   refine W_nil ?_
                   refine N_then_k ?_
                   refine K_ret ?_
                   refine N_block_ret ?_
                   refine N_then_ret ?_
                   refine N_done1 (.inr rfl) rfl rfl ?_
                   refine ⟨_, rfl, congrArg Value.bool ?_, hp.nil⟩
                   first
                     | rfl
                     | (refine Bool.eq_iff_iff.2 ?_; simp only [Bool.not_eq_true', decide_eq_true_eq, decide_eq_false_iff_not]; omega)
                     | (refine (decide_eq_true ?_).symm; first | omega | (rw [← hcl]; first | exact Or.inl (by assumption) | exact Or.inr (Or.inl (by assumption)) | (constructor <;> intro h <;> first | exact Or.inr (Or.inr h) | (rcases h with h | h | h <;> first | exact h | contradiction))))
                     | (refine (decide_eq_false ?_).symm; first | omega | (rw [← hcl]; first | exact Or.inl (by assumption) | exact Or.inr (Or.inl (by assumption)) | (constructor <;> intro h <;> first | exact Or.inr (Or.inr h) | (rcases h with h | h | h <;> first | exact h | contradiction))))
                     | (refine decide_eq_decide.2 ?_; first | omega | (rw [← hcl]; first | exact Or.inl (by assumption) | exact Or.inr (Or.inl (by assumption)) | (constructor <;> intro h <;> first | exact Or.inr (Or.inr h) | (rcases h with h | h | h <;> first | exact h | contradiction)))))))
              · try (exfalso; first | omega | (simp only [Bool.false_eq_true, reduceCtorEq] at hc9; done) | (refine absurd hc9 ?_; with_reducible assumption) | (refine absurd ?_ hc9; with_reducible assumption))
                all_goals (
                 refine K_skip ?_
                 refine N_block_normal ?_
                 refine N_then_k ?_
                 refine K_seq ?_
                 refine K_region ?_
                 refine W_move rfl rfl ?_
                 first
                   | (refine W_eql_t rfl rfl ?_ rfl ?_; (focus (omega)))
                   | (refine W_eql_f rfl rfl ?_ rfl ?_; (focus (omega)))
                   | (refine W_eql rfl rfl rfl ?_)
                 refine W_move rfl rfl ?_
                 first
                   | refine W_guard_lit_t rfl ?_
                   | refine W_guard_lit_f rfl ?_
                   | refine W_guard_lit_u rfl ?_
                   | refine W_guard_split_d rfl rfl rfl (fun hg12 => ?_) (fun hg12 => ?_)
                   | refine W_guard_split_n rfl rfl rfl (fun hg12 => ?_) (fun hg12 => ?_)
                   | refine W_guard_split_nb rfl rfl rfl (fun hg12 => ?_) (fun hg12 => ?_)
                   | refine W_guard_split rfl rfl rfl (fun hg12 => ?_) (fun hg12 => ?_)
                 all_goals try (exfalso; first | omega | (simp only [Bool.false_eq_true, reduceCtorEq] at hg12; done) | (refine absurd hg12 ?_; with_reducible assumption) | (refine absurd ?_ hg12; with_reducible assumption))
                 all_goals (
                  first
                    | (iterate 3 refine W_guard_no rfl rfl rfl ?_)
                    | (iterate 3 refine W_guard_un rfl rfl ?_)
                    | (refine W_guard_yes rfl ?_
                       refine W_move rfl rfl ?_
                       refine W_guard_yes rfl ?_
                       first
                         | (refine W_geq_t rfl rfl ?_ rfl ?_; (focus (omega)))
                         | (refine W_geq_f rfl rfl ?_ rfl ?_; (focus (omega)))
                         | (refine W_geq rfl rfl rfl ?_)
                       refine W_guard_yes rfl ?_
                       refine W_move rfl rfl ?_)
                  first
                    | refine W_guard_lit_t rfl ?_
                    | refine W_guard_lit_f rfl ?_
                    | refine W_guard_lit_u rfl ?_
                    | refine W_guard_split_d rfl rfl rfl (fun hg13 => ?_) (fun hg13 => ?_)
                    | refine W_guard_split_n rfl rfl rfl (fun hg13 => ?_) (fun hg13 => ?_)
                    | refine W_guard_split_nb rfl rfl rfl (fun hg13 => ?_) (fun hg13 => ?_)
                    | refine W_guard_split rfl rfl rfl (fun hg13 => ?_) (fun hg13 => ?_)
                  all_goals try (exfalso; first | omega | (simp only [Bool.false_eq_true, reduceCtorEq] at hg13; done) | (refine absurd hg13 ?_; with_reducible assumption) | (refine absurd ?_ hg13; with_reducible assumption))
                  all_goals (
                   first
                     | (iterate 2 refine W_guard_no rfl rfl rfl ?_)
                     | (iterate 2 refine W_guard_un rfl rfl ?_)
                     | (refine W_guard_yes rfl ?_
                        refine W_move rfl rfl ?_
                        refine W_guard_yes rfl ?_
                        first
                          | (refine W_neq_t rfl rfl ?_ rfl ?_; (focus (omega)))
                          | (refine W_neq_f rfl rfl ?_ rfl ?_; (focus (omega)))
                          | (refine W_neq rfl rfl rfl ?_))
                   first
                     | (refine W_guard_no rfl rfl rfl ?_)
                     | (refine W_guard_un rfl rfl ?_)
                     | (refine W_guard_yes rfl ?_
                        first
                          | (refine W_pick_t rfl rfl rfl ?_)
                          | (refine W_pick_f rfl rfl rfl ?_)
                          | (refine W_pick_b rfl rfl rfl rfl ?_))
                   first
                     | (refine W_pick_t rfl rfl rfl ?_)
                     | (refine W_pick_f rfl rfl rfl ?_)
                     | (refine W_pick_b rfl rfl rfl rfl ?_)
                   refine W_assign rfl rfl ?_
                   refine W_nil ?_
                   refine N_then_k ?_
                   refine K_ret ?_
                   refine N_done1 (.inr rfl) rfl rfl ?_
                   refine ⟨_, rfl, congrArg Value.bool ?_, hp.nil⟩
                   first
                     | rfl
                     | (refine Bool.eq_iff_iff.2 ?_; simp only [Bool.not_eq_true', decide_eq_true_eq, decide_eq_false_iff_not]; omega)
                     | (refine (decide_eq_true ?_).symm; first | omega | (rw [← hcl]; first | exact Or.inl (by assumption) | exact Or.inr (Or.inl (by assumption)) | (constructor <;> intro h <;> first | exact Or.inr (Or.inr h) | (rcases h with h | h | h <;> first | exact h | contradiction))))
                     | (refine (decide_eq_false ?_).symm; first | omega | (rw [← hcl]; first | exact Or.inl (by assumption) | exact Or.inr (Or.inl (by assumption)) | (constructor <;> intro h <;> first | exact Or.inr (Or.inr h) | (rcases h with h | h | h <;> first | exact h | contradiction))))
                     | (refine decide_eq_decide.2 ?_; first | omega | (rw [← hcl]; first | exact Or.inl (by assumption) | exact Or.inr (Or.inl (by assumption)) | (constructor <;> intro h <;> first | exact Or.inr (Or.inr h) | (rcases h with h | h | h <;> first | exact h | contradiction)))))))))))

theorem rall2_spec (s : List UInt8) (hl : s.length ≤ 9000000000000000000) : PureF Tryd.prog 28 [.string ⟨s.toArray⟩, .int .i64 2] (.bool (s.all tokenB)) := by
  refine PureF.intro go28 Tryd.func28 rfl rfl fun w0 hp => ?_
  refine K_seq ?_
  refine K_region ?_
  refine W_assign rfl rfl ?_
  refine W_nil ?_
  refine N_then_k ?_
  refine K_seq ?_
  refine K_seq ?_
  refine K_region ?_
  refine W_assign rfl rfl ?_
  refine W_nil ?_
  refine N_then_k ?_
  refine K_block ?_
  refine K_loop (σ := Nat) [4, 5, 6, 7, 8, 9, 10, 11, 12, 13, 14, 15, 16, 17]
      (fun k => [(5, .int .i64 k)])
      (fun k w => Hp w0 [] [] w ∧ k ≤ s.length ∧ (s.take k).all tokenB = true)
      (fun k => s.length - k) (0) ?_ ?_ ?_
  · repeat' (first | exact sub_lst_nil (sub_nil _) | refine sub_lst rfl ?_ | (refine sub_lst_eq rfl ?_ ?_; · first | rfl | (simp; done) | (congr 1; omega)))
  · exact ⟨hp, Nat.zero_le _, by simp⟩
  · intro k w hJ
    clear hp
    obtain ⟨hp, hle, ha⟩ := hJ
    rcases Nat.lt_or_ge k (s.length) with hlt | hge
    all_goals (
     refine K_seq ?_
     refine K_seq ?_
     refine K_region ?_
     refine W_move rfl rfl ?_
     refine W_move rfl rfl ?_
     refine W_len_s Tryd.underlying9 rfl rfl ?_
     first
       | (refine W_lss_t rfl rfl ?_ rfl ?_; (focus (omega)))
       | (refine W_lss_f rfl rfl ?_ rfl ?_; (focus (omega)))
       | (refine W_lss rfl rfl rfl ?_)
     refine W_nil ?_
     refine N_then_k ?_
     first
       | refine K_cond_d rfl (fun hc1 => ?_) (fun hc1 => ?_)
       | refine K_cond_n rfl (fun hc1 => ?_) (fun hc1 => ?_)
       | refine K_cond_nb rfl (fun hc1 => ?_) (fun hc1 => ?_)
       | refine K_cond_t rfl (fun hc1 => ?_) (fun hc1 => ?_)
     · try (exfalso; first | omega | (simp only [Bool.false_eq_true, reduceCtorEq] at hc1; done) | (refine absurd hc1 ?_; with_reducible assumption) | (refine absurd ?_ hc1; with_reducible assumption))
       all_goals (
        refine K_skip ?_
        refine N_then_k ?_
        refine K_seq ?_
        refine K_block ?_
        refine K_seq ?_
        refine K_region ?_
        obtain ⟨c, hc⟩ : ∃ c, s[k]? = some c := ⟨_, List.getElem?_eq_getElem hlt⟩
        refine W_move rfl rfl ?_
        refine W_move rfl rfl ?_
        refine W_index_s Tryd.underlying9 rfl rfl ?_ (by first | with_reducible assumption | assumption | exact rfl | exact idx_getD (by first | omega | (simp; omega))) rfl ?_
        (focus (omega))
        refine W_move rfl rfl ?_
        refine W_pcall hp rfl (class2_spec c) rfl ?_
        clear hp; intro w hp
        first
          | (refine W_not_t rfl rfl ?_)
          | (refine W_not_f rfl rfl ?_)
          | (refine W_not rfl rfl ?_)
        refine W_nil ?_
        refine N_then_k ?_
        first
          | refine K_cond_d rfl (fun hc2 => ?_) (fun hc2 => ?_)
          | refine K_cond_n rfl (fun hc2 => ?_) (fun hc2 => ?_)
          | refine K_cond_nb rfl (fun hc2 => ?_) (fun hc2 => ?_)
          | refine K_cond_t rfl (fun hc2 => ?_) (fun hc2 => ?_)
        · try (exfalso; first | omega | (simp only [Bool.false_eq_true, reduceCtorEq] at hc2; done) | (refine absurd hc2 ?_; with_reducible assumption) | (refine absurd ?_ hc2; with_reducible assumption))
          all_goals (
           refine K_seq ?_
           refine K_region ?_
           refine W_assign rfl rfl ?_
           refine W_nil ?_
           refine N_then_k ?_
           refine K_ret ?_
           refine N_block_ret ?_
           refine N_then_ret ?_
           refine N_then_ret ?_
           refine N_block_ret ?_
           refine N_then_ret ?_
           refine N_done1 (.inr rfl) rfl rfl ?_
           refine ⟨_, rfl, congrArg Value.bool ?_, hp.nil⟩
           first
             | (rw [all_not hc (decide_eq_false (by assumption))])
             | (rw [List.take_of_length_le ‹s.length ≤ k›] at ha; rw [ha]))
        · try (exfalso; first | omega | (simp only [Bool.false_eq_true, reduceCtorEq] at hc2; done) | (refine absurd hc2 ?_; with_reducible assumption) | (refine absurd ?_ hc2; with_reducible assumption))
          all_goals (
           refine K_skip ?_
           refine N_block_normal ?_
           refine N_then_k ?_
           refine K_region ?_
           refine W_move rfl rfl ?_
           first
             | (refine W_add rfl rfl (wr_i64 ?_) rfl ?_; (focus (omega)))
             | (refine W_add rfl rfl rfl rfl ?_)
           refine W_assign rfl rfl ?_
           refine W_nil ?_
           refine N_again (k + 1) (sub_end ?_ ?_) ?_ ?_
           · repeat' (first | exact sub_lst_nil (sub_nil _) | refine sub_lst rfl ?_ | (refine sub_lst_eq rfl ?_ ?_; · first | rfl | (simp; done) | (congr 1; omega)))
           · repeat' (first | exact sub_refl _ | exact sub_strip _ _ | refine sub_s_cons rfl ?_ | refine sub_s_lst rfl ?_ | refine sub_s_strip rfl ?_)
           · refine ⟨hp, hlt, ?_⟩
             rw [all_take hc, ha]; exact (Bool.true_and _).trans (decide_eq_true (by assumption))
           · omega))
     · try (exfalso; first | omega | (simp only [Bool.false_eq_true, reduceCtorEq] at hc1; done) | (refine absurd hc1 ?_; with_reducible assumption) | (refine absurd ?_ hc1; with_reducible assumption))
       all_goals (
        refine K_exit ?_
        refine N_then_exit ?_
        refine N_then_exit ?_
        refine N_block_exit ?_
        refine N_then_k ?_
        refine K_seq ?_
        refine K_region ?_
        refine W_assign rfl rfl ?_
        refine W_nil ?_
        refine N_then_k ?_
        refine K_ret ?_
        refine N_done1 (.inr rfl) rfl rfl ?_
        refine ⟨_, rfl, congrArg Value.bool ?_, hp.nil⟩
        first
          | (rw [all_not hc (decide_eq_false (by assumption))])
          | (rw [List.take_of_length_le ‹s.length ≤ k›] at ha; rw [ha])))

theorem risToken_spec (s : List UInt8) (hl : s.length ≤ 9000000000000000000) : PureF Tryd.prog 19 [.string ⟨s.toArray⟩] (.bool (isToken s)) := by
  refine PureF.intro go19 Tryd.func19 rfl rfl fun w0 hp => ?_
  refine K_seq ?_
  refine K_region ?_
  refine W_assign rfl rfl ?_
  refine W_nil ?_
  refine N_then_k ?_
  refine K_seq ?_
  refine K_region ?_
  refine W_move rfl rfl ?_
  refine W_len_s Tryd.underlying9 rfl rfl ?_
  first
    | (refine W_gtr_t rfl rfl ?_ rfl ?_; (focus (omega)))
    | (refine W_gtr_f rfl rfl ?_ rfl ?_; (focus (omega)))
    | (refine W_gtr rfl rfl rfl ?_)
  refine W_move rfl rfl ?_
  first
    | refine W_guard_lit_t rfl ?_
    | refine W_guard_lit_f rfl ?_
    | refine W_guard_lit_u rfl ?_
    | refine W_guard_split_d rfl rfl rfl (fun hg1 => ?_) (fun hg1 => ?_)
    | refine W_guard_split_n rfl rfl rfl (fun hg1 => ?_) (fun hg1 => ?_)
    | refine W_guard_split_nb rfl rfl rfl (fun hg1 => ?_) (fun hg1 => ?_)
    | refine W_guard_split rfl rfl rfl (fun hg1 => ?_) (fun hg1 => ?_)
  all_goals try (exfalso; first | omega | (simp only [Bool.false_eq_true, reduceCtorEq] at hg1; done) | (refine absurd hg1 ?_; with_reducible assumption) | (refine absurd ?_ hg1; with_reducible assumption))
  all_goals (
   first
     | (iterate 2 refine W_guard_no rfl rfl rfl ?_)
     | (iterate 2 refine W_guard_un rfl rfl ?_)
     | (refine W_guard_yes rfl ?_
        refine W_move rfl rfl ?_
        refine W_guard_yes rfl ?_
        refine W_pcall hp rfl (rall2_spec s hl) rfl ?_
        clear hp; intro w hp)
   first
     | (refine W_pick_t rfl rfl rfl ?_)
     | (refine W_pick_f rfl rfl rfl ?_)
     | (refine W_pick_b rfl rfl rfl rfl ?_)
   refine W_assign rfl rfl ?_
   refine W_nil ?_
   refine N_then_k ?_
   refine K_ret ?_
   refine N_done1 (.inr rfl) rfl rfl ?_
   refine ⟨_, rfl, congrArg Value.bool ?_, hp.nil⟩
   cases s <;> simp_all [isToken])

theorem rlower_spec (s : List UInt8) (hl : s.length ≤ 100000000000) : PureF Tryd.prog 20 [.string ⟨s.toArray⟩] (.string ⟨(lower s).toArray⟩) := by
  refine PureF.intro go20 Tryd.func20 rfl rfl fun w0 hp => ?_
  refine K_seq ?_
  refine K_region ?_
  refine W_assign rfl rfl ?_
  refine W_nil ?_
  refine N_then_k ?_
  refine K_seq ?_
  refine K_region ?_
  refine W_assign rfl rfl ?_
  refine W_nil ?_
  refine N_then_k ?_
  refine K_seq ?_
  refine K_seq ?_
  refine K_region ?_
  refine W_assign rfl rfl ?_
  refine W_nil ?_
  refine N_then_k ?_
  refine K_block ?_
  refine K_loop (σ := Nat × Value × Heap) [3, 4, 5, 6, 7, 8, 9, 10, 11, 12, 13, 14, 15, 16, 17, 18, 19, 20, 21, 22, 23, 24, 25, 26]
      (fun s => [(4, .int .i64 s.1), (3, s.2.1)])
      (fun q w => OS 5 1 q.2.1 q.1 (bytesV (lower (s.take q.1))) q.2.2 ∧ Hp w0 [] q.2.2 w ∧ q.1 ≤ s.length)
      (fun q => s.length - q.1) ((0, .slice none 0 0, [])) ?_ ?_ ?_
  · repeat' (first | exact sub_lst_nil (sub_nil _) | refine sub_lst rfl ?_ | (refine sub_lst_eq rfl ?_ ?_; · first | rfl | (simp; done) | (congr 1; omega)))
  · exact ⟨OS.nil, hp, Nat.zero_le _⟩
  · intro ⟨k, v, Hs⟩ w hJ
    clear hp
    obtain ⟨hos, hp, hle⟩ := hJ
    simp only at hos hp hle
    change K _ _ _ _ (.lst ([(4, .int .i64 k), (3, v)]) _) _
    obtain ⟨Av, cv, rfl⟩ := hos.form
    rcases Nat.lt_or_ge k s.length with hlt | hge
    all_goals (
     refine K_seq ?_
     refine K_seq ?_
     refine K_region ?_
     refine W_move rfl rfl ?_
     refine W_move rfl rfl ?_
     refine W_len_s Tryd.underlying9 rfl rfl ?_
     first
       | (refine W_lss_t rfl rfl ?_ rfl ?_; (focus (omega)))
       | (refine W_lss_f rfl rfl ?_ rfl ?_; (focus (omega)))
       | (refine W_lss rfl rfl rfl ?_)
     refine W_nil ?_
     refine N_then_k ?_
     first
       | refine K_cond_d rfl (fun hc1 => ?_) (fun hc1 => ?_)
       | refine K_cond_n rfl (fun hc1 => ?_) (fun hc1 => ?_)
       | refine K_cond_nb rfl (fun hc1 => ?_) (fun hc1 => ?_)
       | refine K_cond_t rfl (fun hc1 => ?_) (fun hc1 => ?_)
     · try (exfalso; first | omega | (simp only [Bool.false_eq_true, reduceCtorEq] at hc1; done) | (refine absurd hc1 ?_; with_reducible assumption) | (refine absurd ?_ hc1; with_reducible assumption))
       all_goals (
        refine K_skip ?_
        refine N_then_k ?_
        refine K_seq ?_
        refine K_block ?_
        refine K_seq ?_
        refine K_region ?_
        obtain ⟨c, hc⟩ : ∃ c, s[k]? = some c := ⟨_, List.getElem?_eq_getElem hlt⟩
        have hu := c.toNat_lt
        have hlv := lowerC_val c
        refine W_move rfl rfl ?_
        refine W_move rfl rfl ?_
        refine W_index_s Tryd.underlying9 rfl rfl ?_ (by first | with_reducible assumption | assumption | exact rfl | exact idx_getD (by first | omega | (simp; omega))) rfl ?_
        (focus (omega))
        refine W_assign rfl rfl ?_
        refine W_nil ?_
        refine N_then_k ?_
        refine K_mid (σ := Unit) [5, 15, 16, 17, 18, 19, 20, 21, 22]
            (fun _ => [(5, .int .u8 ((lowerC c).toNat : Int))])
            (fun _ w => Hp w0 [] Hs w) ?_ ?_
        · refine K_seq ?_
          refine K_region ?_
          refine W_move rfl rfl ?_
          first
            | (refine W_geq_t rfl rfl ?_ rfl ?_; (focus (omega)))
            | (refine W_geq_f rfl rfl ?_ rfl ?_; (focus (omega)))
            | (refine W_geq rfl rfl rfl ?_)
          refine W_move rfl rfl ?_
          first
            | refine W_guard_lit_t rfl ?_
            | refine W_guard_lit_f rfl ?_
            | refine W_guard_lit_u rfl ?_
            | refine W_guard_split_d rfl rfl rfl (fun hg2 => ?_) (fun hg2 => ?_)
            | refine W_guard_split_n rfl rfl rfl (fun hg2 => ?_) (fun hg2 => ?_)
            | refine W_guard_split_nb rfl rfl rfl (fun hg2 => ?_) (fun hg2 => ?_)
            | refine W_guard_split rfl rfl rfl (fun hg2 => ?_) (fun hg2 => ?_)
          all_goals try (exfalso; first | omega | (simp only [Bool.false_eq_true, reduceCtorEq] at hg2; done) | (refine absurd hg2 ?_; with_reducible assumption) | (refine absurd ?_ hg2; with_reducible assumption))
          all_goals (
           first
             | (iterate 2 refine W_guard_no rfl rfl rfl ?_)
             | (iterate 2 refine W_guard_un rfl rfl ?_)
             | (refine W_guard_yes rfl ?_
                refine W_move rfl rfl ?_
                refine W_guard_yes rfl ?_
                first
                  | (refine W_leq_t rfl rfl ?_ rfl ?_; (focus (omega)))
                  | (refine W_leq_f rfl rfl ?_ rfl ?_; (focus (omega)))
                  | (refine W_leq rfl rfl rfl ?_))
           first
             | (refine W_pick_t rfl rfl rfl ?_)
             | (refine W_pick_f rfl rfl rfl ?_)
             | (refine W_pick_b rfl rfl rfl rfl ?_)
           refine W_nil ?_
           refine N_then_k ?_
           first
             | refine K_cond_d rfl (fun hc3 => ?_) (fun hc3 => ?_)
             | refine K_cond_n rfl (fun hc3 => ?_) (fun hc3 => ?_)
             | refine K_cond_nb rfl (fun hc3 => ?_) (fun hc3 => ?_)
             | refine K_cond_t rfl (fun hc3 => ?_) (fun hc3 => ?_)
           · try (exfalso; first | omega | (simp only [Bool.false_eq_true, reduceCtorEq] at hc3; done) | (refine absurd hc3 ?_; with_reducible assumption) | (refine absurd ?_ hc3; with_reducible assumption))
             all_goals (
              refine K_region ?_
              refine W_move rfl rfl ?_
              first
                | (refine W_add rfl rfl (wr_u8 ?_) rfl ?_; (focus (omega)))
                | (refine W_add rfl rfl rfl rfl ?_)
              refine W_assign rfl rfl ?_
              refine W_nil ?_
              refine N_mid (()) (sub_end ?_ ?_) ?_
              · repeat' (first | exact sub_lst_nil (sub_nil _) | refine sub_lst rfl ?_ | (refine sub_lst_eq rfl ?_ ?_; · first | rfl | (rw [hlv]; first | rw [if_pos (by omega)] | rw [if_neg (by omega)]) | (simp; done) | (congr 1; omega)))
              · repeat' (first | exact sub_refl _ | exact sub_strip _ _ | refine sub_s_cons rfl ?_ | refine sub_s_lst rfl ?_ | refine sub_s_strip rfl ?_)
              · exact hp)
           · try (exfalso; first | omega | (simp only [Bool.false_eq_true, reduceCtorEq] at hc3; done) | (refine absurd hc3 ?_; with_reducible assumption) | (refine absurd ?_ hc3; with_reducible assumption))
             all_goals (
              refine K_skip ?_
              refine N_mid (()) (sub_end ?_ ?_) ?_
              · repeat' (first | exact sub_lst_nil (sub_nil _) | refine sub_lst rfl ?_ | (refine sub_lst_eq rfl ?_ ?_; · first | rfl | (rw [hlv]; first | rw [if_pos (by omega)] | rw [if_neg (by omega)]) | (simp; done) | (congr 1; omega)))
              · repeat' (first | exact sub_refl _ | exact sub_strip _ _ | refine sub_s_cons rfl ?_ | refine sub_s_lst rfl ?_ | refine sub_s_strip rfl ?_)
              · exact hp))
        · intro _ w hJ
          have hp := hJ
          refine K_region ?_
          refine W_move rfl rfl ?_
          refine W_move rfl rfl ?_
          refine W_bslice1 hp Tryd.underlying44 sz5 zv5 rfl  rfl  (fun v0 => [v0]) rfl rfl rfl ?_
          clear hp; intro b25 w hp
          try simp only [List.append_nil] at hp
          rw [← List.append_nil Hs] at hp
          refine W_append_sl (A := [_]) (B := []) _ rfl hp rfl Tryd.underlying44 sz5 pb5 zv5 rfl rfl rfl rfl hos (Rd.own hp (by first | exact List.mem_cons_self | exact .tail _ (.head _) | exact .tail _ (.tail _ (.head _)) | exact .tail _ (.tail _ (.tail _ (.head _))) | exact .tail _ (.tail _ (.tail _ (.tail _ (.head _)))) | exact .tail _ (.tail _ (.tail _ (.tail _ (.tail _ (.head _))))) | exact List.mem_append_right _ (.head _) | exact List.mem_append_right _ (.tail _ (.head _)) | exact List.mem_append_right _ (.tail _ (.tail _ (.head _))) | exact .tail _ (List.mem_append_right _ (.head _)) | exact .tail _ (List.mem_append_right _ (.tail _ (.head _))) | assumption | (repeat (first | exact List.mem_cons_self | apply List.mem_append_right | apply List.mem_cons_of_mem))) (List.prefix_refl _)) ?_ ?_ ?_ ?_ rfl ?_
          · rfl
          · first | (simp [Value.oneCell']; done) | (simp [Value.oneCell', strV]; done)
          · (simp only [maxLen]; omega)
          · omega
          clear hp; intro va26 Hs w hos hp
          obtain ⟨Aa26, ca26, rfl⟩ := hos.form
          refine W_assign rfl rfl ?_
          refine W_nil ?_
          refine N_block_normal ?_
          refine N_then_k ?_
          refine K_region ?_
          refine W_move rfl rfl ?_
          first
            | (refine W_add rfl rfl (wr_i64 ?_) rfl ?_; (focus (omega)))
            | (refine W_add rfl rfl rfl rfl ?_)
          refine W_assign rfl rfl ?_
          refine W_nil ?_
          refine N_again ((k + 1, .slice Aa26 (k + 1) ca26, Hs)) (sub_end ?_ ?_) ?_ ?_
          · repeat' (first | exact sub_lst_nil (sub_nil _) | refine sub_lst rfl ?_ | (refine sub_lst_eq rfl ?_ ?_; · first | rfl | (simp; done) | (congr 1; omega)))
          · repeat' (first | exact sub_refl _ | exact sub_strip _ _ | refine sub_s_cons rfl ?_ | refine sub_s_lst rfl ?_ | refine sub_s_strip rfl ?_)
          · refine ⟨?_, ?_, hlt⟩
            · have e : bytesV (lower (s.take (k + 1))) = bytesV (lower (s.take k)) ++ [.int .u8 ((lowerC c).toNat : Int)] := by rw [List.take_add_one, hc]; simp [bytesV, lower]
              show OS _ _ _ _ (bytesV (lower (s.take (k + 1)))) _
              rw [e]
              exact hos
            · simpa using hp.drop (List.sublist_cons_self _ _)
          · show _ < _; simp only; omega)
     · try (exfalso; first | omega | (simp only [Bool.false_eq_true, reduceCtorEq] at hc1; done) | (refine absurd hc1 ?_; with_reducible assumption) | (refine absurd ?_ hc1; with_reducible assumption))
       all_goals (
        refine K_exit ?_
        refine N_then_exit ?_
        refine N_then_exit ?_
        refine N_block_exit ?_
        refine N_then_k ?_
        refine K_seq ?_
        refine K_region ?_
        refine W_move rfl rfl ?_
        obtain rfl : k = s.length := by omega
        rw [List.take_length] at hos
        refine W_conv_bs (a := lower s) Tryd.underlying44 Tryd.underlying5 Tryd.underlying9 rfl (hos.rd (A := []) (B := []) (by simpa using hp)) (by simp [lower]) rfl ?_
        refine W_assign rfl rfl ?_
        refine W_nil ?_
        refine N_then_k ?_
        refine K_ret ?_
        refine N_done1 (.inr rfl) rfl rfl ?_
        exact ⟨_, rfl, rfl, by first | exact hp.nil | exact (hp.drop (List.nil_sublist _))⟩))

theorem at_or (s : List UInt8) (k : Nat) : s.length ≤ k ∨ ∃ c, s[k]? = some c ∧ k < s.length := by
  rcases Nat.lt_or_ge k s.length with h | h
  · exact .inr ⟨_, List.getElem?_eq_getElem h, h⟩
  · exact .inl h
theorem cut_or {s : List UInt8} {f g : Nat} (h : g ≤ s.length) : g ≤ f ∨ ∃ c, s[((g : Int) - 1).toNat]? = some c ∧ f < g := by
  rcases Nat.lt_or_ge f g with h1 | h1
  · exact .inr ⟨_, List.getElem?_eq_getElem (by omega), h1⟩
  · exact .inl h1
theorem drop_at {s : List UInt8} {k : Nat} {c : UInt8} (h : s[k]? = some c) : s.drop k = c :: s.drop (k + 1) := by
  have hk := (List.getElem?_eq_some_iff.1 h).1
  rw [List.drop_eq_getElem_cons hk, (List.getElem?_eq_some_iff.1 h).2]
theorem drop_trim {s : List UInt8} {k : Nat} {c : UInt8} (h : s[k]? = some c) (hb : BlankP c.toNat) : trimL (s.drop k) = trimL (s.drop (k + 1)) := by
  rw [drop_at h, trimL_cons_blank (decide_eq_true hb)]
theorem trim_stop {s : List UInt8} {k : Nat} (ha : trimL s = trimL (s.drop k)) (h : s.length ≤ k ∨ ∃ c, s[k]? = some c ∧ ¬ BlankP c.toNat) : trimL s = s.drop k := by
  rw [ha]
  rcases h with h | ⟨c, h, hb⟩
  · rw [List.drop_of_length_le h]; rfl
  · rw [drop_at h, trimL_cons (decide_eq_false hb)]
theorem take_at {s : List UInt8} {g : Nat} {c : UInt8} (h : s[((g : Int) - 1).toNat]? = some c) (hg : 0 < g) : s.take g = s.take (g - 1) ++ [c] := by
  have e : ((g : Int) - 1).toNat = g - 1 := by omega
  rw [e] at h
  obtain ⟨q, rfl⟩ : ∃ q, g = q + 1 := ⟨g - 1, by omega⟩
  simp only [Nat.add_sub_cancel] at h ⊢
  rw [List.take_add_one, h]; rfl
theorem cut_at {s : List UInt8} {f g : Nat} {c : UInt8} (h : s[((g : Int) - 1).toNat]? = some c) (hg : f < g) : (s.take g).drop f = (s.take (g - 1)).drop f ++ [c] := by
  have hk := (List.getElem?_eq_some_iff.1 h).1
  rw [take_at h (by omega), List.drop_append_of_le_length (by simp; omega)]
theorem cut_trim {s : List UInt8} {f g : Nat} {c : UInt8} (h : s[((g : Int) - 1).toNat]? = some c) (hg : f < g) (hb : BlankP c.toNat) : trimR ((s.take (g - 1)).drop f) = trimR ((s.take g).drop f) := by
  rw [cut_at h hg, trimR_snoc_blank (decide_eq_true hb)]
theorem slice_trim {s : List UInt8} {f g : Nat} (h1 : trimL s = s.drop f) (h2 : f ≤ s.length) (h3 : f ≤ g) (h4 : g ≤ s.length) (h5 : trimR ((s.take g).drop f) = trimR (s.drop f)) (h6 : g ≤ f ∨ ∃ c, s[((g : Int) - 1).toNat]? = some c ∧ ¬ BlankP c.toNat) :
    (s.drop (f : Int).toNat).take ((g : Int).toNat - (f : Int).toNat) = trim s := by
  simp only [Int.toNat_natCast]
  rw [← List.drop_take]
  unfold trim
  rw [h1, ← h5]
  rcases Nat.lt_or_ge f g with h | h
  · obtain ⟨c, hc, hb⟩ := h6.resolve_left (by omega)
    rw [cut_at hc h, trimR_snoc (decide_eq_false hb)]
  · rw [List.drop_of_length_le (by simp; omega)]; rfl

theorem rtrim_spec (s : List UInt8) (hl : s.length ≤ 9000000000000000000) : PureF Tryd.prog 21 [.string ⟨s.toArray⟩] (.string ⟨(trim s).toArray⟩) := by
  refine PureF.intro go21 Tryd.func21 rfl rfl fun w0 hp => ?_
  refine K_seq ?_
  refine K_region ?_
  refine W_assign rfl rfl ?_
  refine W_nil ?_
  refine N_then_k ?_
  refine K_seq ?_
  refine K_region ?_
  refine W_assign rfl rfl ?_
  refine W_nil ?_
  refine N_then_k ?_
  refine K_mid (σ := Nat) [3, 5, 6, 7, 8, 9, 10, 11, 12, 13, 14, 15, 16, 17, 18, 19, 20, 21, 22]
      (fun f => [(3, .int .i64 f)])
      (fun f w => Hp w0 [] [] w ∧ f ≤ s.length ∧ trimL s = s.drop f) ?_ ?_
  · refine K_block ?_
    refine K_loop (σ := Nat) [3, 5, 6, 7, 8, 9, 10, 11, 12, 13, 14, 15, 16, 17, 18, 19, 20, 21, 22]
        (fun k => [(3, .int .i64 k)])
        (fun k w => Hp w0 [] [] w ∧ k ≤ s.length ∧ trimL s = trimL (s.drop k))
        (fun k => s.length - k) (0) ?_ ?_ ?_
    · repeat' (first | exact sub_lst_nil (sub_nil _) | refine sub_lst rfl ?_ | (refine sub_lst_eq rfl ?_ ?_; · first | rfl | (simp; done) | (congr 1; omega)))
    · exact ⟨hp, Nat.zero_le _, rfl⟩
    · intro k w hJ
      clear hp
      obtain ⟨hp, hle, ha⟩ := hJ
      rcases at_or s k with hge | ⟨c, hc, hlt⟩
      all_goals (
       refine K_seq ?_
       refine K_seq ?_
       refine K_region ?_
       refine W_move rfl rfl ?_
       refine W_move rfl rfl ?_
       refine W_len_s Tryd.underlying9 rfl rfl ?_
       first
         | (refine W_lss_t rfl rfl ?_ rfl ?_; (focus (omega)))
         | (refine W_lss_f rfl rfl ?_ rfl ?_; (focus (omega)))
         | (refine W_lss rfl rfl rfl ?_)
       refine W_move rfl rfl ?_
       first
         | refine W_guard_lit_t rfl ?_
         | refine W_guard_lit_f rfl ?_
         | refine W_guard_lit_u rfl ?_
         | refine W_guard_split_d rfl rfl rfl (fun hg1 => ?_) (fun hg1 => ?_)
         | refine W_guard_split_n rfl rfl rfl (fun hg1 => ?_) (fun hg1 => ?_)
         | refine W_guard_split_nb rfl rfl rfl (fun hg1 => ?_) (fun hg1 => ?_)
         | refine W_guard_split rfl rfl rfl (fun hg1 => ?_) (fun hg1 => ?_)
       all_goals try (exfalso; first | omega | (simp only [Bool.false_eq_true, reduceCtorEq] at hg1; done) | (refine absurd hg1 ?_; with_reducible assumption) | (refine absurd ?_ hg1; with_reducible assumption))
       all_goals (
        first
          | (iterate 5 refine W_guard_no rfl rfl rfl ?_)
          | (iterate 5 refine W_guard_un rfl rfl ?_)
          | (refine W_guard_yes rfl ?_
             refine W_move rfl rfl ?_
             refine W_guard_yes rfl ?_
             refine W_move rfl rfl ?_
             refine W_guard_yes rfl ?_
             refine W_index_s Tryd.underlying9 rfl rfl ?_ (by first | with_reducible assumption | assumption | exact rfl | exact idx_getD (by first | omega | (simp; omega))) rfl ?_
             (focus (omega))
             refine W_guard_yes rfl ?_
             first
               | (refine W_eql_t rfl rfl ?_ rfl ?_; (focus (omega)))
               | (refine W_eql_f rfl rfl ?_ rfl ?_; (focus (omega)))
               | (refine W_eql rfl rfl rfl ?_)
             refine W_guard_yes rfl ?_
             refine W_move rfl rfl ?_)
        first
          | refine W_guard_lit_t rfl ?_
          | refine W_guard_lit_f rfl ?_
          | refine W_guard_lit_u rfl ?_
          | refine W_guard_split_d rfl rfl rfl (fun hg2 => ?_) (fun hg2 => ?_)
          | refine W_guard_split_n rfl rfl rfl (fun hg2 => ?_) (fun hg2 => ?_)
          | refine W_guard_split_nb rfl rfl rfl (fun hg2 => ?_) (fun hg2 => ?_)
          | refine W_guard_split rfl rfl rfl (fun hg2 => ?_) (fun hg2 => ?_)
        all_goals try (exfalso; first | omega | (simp only [Bool.false_eq_true, reduceCtorEq] at hg2; done) | (refine absurd hg2 ?_; with_reducible assumption) | (refine absurd ?_ hg2; with_reducible assumption))
        all_goals (
         first
           | (iterate 4 refine W_guard_no rfl rfl rfl ?_)
           | (iterate 4 refine W_guard_un rfl rfl ?_)
           | (refine W_guard_yes rfl ?_
              refine W_move rfl rfl ?_
              refine W_guard_yes rfl ?_
              refine W_move rfl rfl ?_
              refine W_guard_yes rfl ?_
              refine W_index_s Tryd.underlying9 rfl rfl ?_ (by first | with_reducible assumption | assumption | exact rfl | exact idx_getD (by first | omega | (simp; omega))) rfl ?_
              (focus (omega))
              refine W_guard_yes rfl ?_
              first
                | (refine W_eql_t rfl rfl ?_ rfl ?_; (focus (omega)))
                | (refine W_eql_f rfl rfl ?_ rfl ?_; (focus (omega)))
                | (refine W_eql rfl rfl rfl ?_))
         first
           | (refine W_guard_no rfl rfl rfl ?_)
           | (refine W_guard_un rfl rfl ?_)
           | (refine W_guard_yes rfl ?_
              first
                | (refine W_pick_t rfl rfl rfl ?_)
                | (refine W_pick_f rfl rfl rfl ?_)
                | (refine W_pick_b rfl rfl rfl rfl ?_))
         first
           | (refine W_pick_t rfl rfl rfl ?_)
           | (refine W_pick_f rfl rfl rfl ?_)
           | (refine W_pick_b rfl rfl rfl rfl ?_)
         refine W_nil ?_
         refine N_then_k ?_
         first
           | refine K_cond_d rfl (fun hc3 => ?_) (fun hc3 => ?_)
           | refine K_cond_n rfl (fun hc3 => ?_) (fun hc3 => ?_)
           | refine K_cond_nb rfl (fun hc3 => ?_) (fun hc3 => ?_)
           | refine K_cond_t rfl (fun hc3 => ?_) (fun hc3 => ?_)
         · try (exfalso; first | omega | (simp only [Bool.false_eq_true, reduceCtorEq] at hc3; done) | (refine absurd hc3 ?_; with_reducible assumption) | (refine absurd ?_ hc3; with_reducible assumption))
           all_goals (
            refine K_skip ?_
            refine N_then_k ?_
            refine K_block ?_
            refine K_region ?_
            refine W_move rfl rfl ?_
            first
              | (refine W_add rfl rfl (wr_i64 ?_) rfl ?_; (focus (omega)))
              | (refine W_add rfl rfl rfl rfl ?_)
            refine W_assign rfl rfl ?_
            refine W_nil ?_
            refine N_block_normal ?_
            refine N_again (k + 1) (sub_end ?_ ?_) ?_ ?_
            · repeat' (first | exact sub_lst_nil (sub_nil _) | refine sub_lst rfl ?_ | (refine sub_lst_eq rfl ?_ ?_; · first | rfl | (simp; done) | (congr 1; omega)))
            · repeat' (first | exact sub_refl _ | exact sub_strip _ _ | refine sub_s_cons rfl ?_ | refine sub_s_lst rfl ?_ | refine sub_s_strip rfl ?_)
            · refine ⟨hp, hlt, ?_⟩
              rw [ha, drop_trim hc (by omega)]
            · omega)
         · try (exfalso; first | omega | (simp only [Bool.false_eq_true, reduceCtorEq] at hc3; done) | (refine absurd hc3 ?_; with_reducible assumption) | (refine absurd ?_ hc3; with_reducible assumption))
           all_goals (
            refine K_exit ?_
            refine N_then_exit ?_
            refine N_then_exit ?_
            refine N_block_exit ?_
            refine N_mid (k) (sub_end ?_ ?_) ?_
            · repeat' (first | exact sub_lst_nil (sub_nil _) | refine sub_lst rfl ?_ | (refine sub_lst_eq rfl ?_ ?_; · first | rfl | (simp; done) | (congr 1; omega)))
            · repeat' (first | exact sub_refl _ | exact sub_strip _ _ | refine sub_s_cons rfl ?_ | refine sub_s_lst rfl ?_ | refine sub_s_strip rfl ?_)
            · refine ⟨hp, hle, ?_⟩
              first
                | exact trim_stop (k := k) ha (.inl (by omega))
                | exact trim_stop (k := k) ha (.inr ⟨c, hc, by omega⟩)))))
  · intro f w hJ
    clear hp
    obtain ⟨hp, hle, hf1⟩ := hJ
    refine K_seq ?_
    refine K_region ?_
    refine W_move rfl rfl ?_
    refine W_len_s Tryd.underlying9 rfl rfl ?_
    refine W_assign rfl rfl ?_
    refine W_nil ?_
    refine N_then_k ?_
    refine K_mid (σ := Nat) [4, 25, 26, 27, 28, 29, 30, 31, 32, 33, 34, 35, 36, 37, 38, 39, 40, 41, 42, 43]
        (fun g => [(4, .int .i64 g)])
        (fun g w => Hp w0 [] [] w ∧ g ≤ s.length ∧ f ≤ g ∧ trimR ((s.take g).drop f) = trimR (s.drop f) ∧ (g ≤ f ∨ ∃ c, s[((g:Int) - 1).toNat]? = some c ∧ ¬ BlankP c.toNat)) ?_ ?_
    · refine K_block ?_
      refine K_loop (σ := Nat) [4, 25, 26, 27, 28, 29, 30, 31, 32, 33, 34, 35, 36, 37, 38, 39, 40, 41, 42, 43]
          (fun g => [(4, .int .i64 g)])
          (fun g w => Hp w0 [] [] w ∧ g ≤ s.length ∧ f ≤ g ∧ trimR ((s.take g).drop f) = trimR (s.drop f))
          (fun g => g) (s.length) ?_ ?_ ?_
      · repeat' (first | exact sub_lst_nil (sub_nil _) | refine sub_lst rfl ?_ | (refine sub_lst_eq rfl ?_ ?_; · first | rfl | (simp; done) | (congr 1; omega)))
      · exact ⟨hp, Nat.le_refl _, hle, by rw [List.take_length]⟩
      · intro g w hJ
        clear hp
        obtain ⟨hp, hle2, hle3, hf2⟩ := hJ
        rcases cut_or hle2 (f := f) with hge | ⟨c, hc, hlt⟩
        all_goals (
         refine K_seq ?_
         refine K_seq ?_
         refine K_region ?_
         refine W_move rfl rfl ?_
         refine W_move rfl rfl ?_
         first
           | (refine W_gtr_t rfl rfl ?_ rfl ?_; (focus (omega)))
           | (refine W_gtr_f rfl rfl ?_ rfl ?_; (focus (omega)))
           | (refine W_gtr rfl rfl rfl ?_)
         refine W_move rfl rfl ?_
         first
           | refine W_guard_lit_t rfl ?_
           | refine W_guard_lit_f rfl ?_
           | refine W_guard_lit_u rfl ?_
           | refine W_guard_split_d rfl rfl rfl (fun hg4 => ?_) (fun hg4 => ?_)
           | refine W_guard_split_n rfl rfl rfl (fun hg4 => ?_) (fun hg4 => ?_)
           | refine W_guard_split_nb rfl rfl rfl (fun hg4 => ?_) (fun hg4 => ?_)
           | refine W_guard_split rfl rfl rfl (fun hg4 => ?_) (fun hg4 => ?_)
         all_goals try (exfalso; first | omega | (simp only [Bool.false_eq_true, reduceCtorEq] at hg4; done) | (refine absurd hg4 ?_; with_reducible assumption) | (refine absurd ?_ hg4; with_reducible assumption))
         all_goals (
          first
            | (iterate 6 refine W_guard_no rfl rfl rfl ?_)
            | (iterate 6 refine W_guard_un rfl rfl ?_)
            | (refine W_guard_yes rfl ?_
               refine W_move rfl rfl ?_
               refine W_guard_yes rfl ?_
               refine W_move rfl rfl ?_
               refine W_guard_yes rfl ?_
               first
                 | (refine W_sub rfl rfl (wr_i64 ?_) rfl ?_; (focus (omega)))
                 | (refine W_sub rfl rfl rfl rfl ?_)
               refine W_guard_yes rfl ?_
               refine W_index_s Tryd.underlying9 rfl rfl ?_ (by first | with_reducible assumption | assumption | exact rfl | exact idx_getD (by first | omega | (simp; omega))) rfl ?_
               (focus (omega))
               refine W_guard_yes rfl ?_
               first
                 | (refine W_eql_t rfl rfl ?_ rfl ?_; (focus (omega)))
                 | (refine W_eql_f rfl rfl ?_ rfl ?_; (focus (omega)))
                 | (refine W_eql rfl rfl rfl ?_)
               refine W_guard_yes rfl ?_
               refine W_move rfl rfl ?_)
          first
            | refine W_guard_lit_t rfl ?_
            | refine W_guard_lit_f rfl ?_
            | refine W_guard_lit_u rfl ?_
            | refine W_guard_split_d rfl rfl rfl (fun hg5 => ?_) (fun hg5 => ?_)
            | refine W_guard_split_n rfl rfl rfl (fun hg5 => ?_) (fun hg5 => ?_)
            | refine W_guard_split_nb rfl rfl rfl (fun hg5 => ?_) (fun hg5 => ?_)
            | refine W_guard_split rfl rfl rfl (fun hg5 => ?_) (fun hg5 => ?_)
          all_goals try (exfalso; first | omega | (simp only [Bool.false_eq_true, reduceCtorEq] at hg5; done) | (refine absurd hg5 ?_; with_reducible assumption) | (refine absurd ?_ hg5; with_reducible assumption))
          all_goals (
           first
             | (iterate 5 refine W_guard_no rfl rfl rfl ?_)
             | (iterate 5 refine W_guard_un rfl rfl ?_)
             | (refine W_guard_yes rfl ?_
                refine W_move rfl rfl ?_
                refine W_guard_yes rfl ?_
                refine W_move rfl rfl ?_
                refine W_guard_yes rfl ?_
                first
                  | (refine W_sub rfl rfl (wr_i64 ?_) rfl ?_; (focus (omega)))
                  | (refine W_sub rfl rfl rfl rfl ?_)
                refine W_guard_yes rfl ?_
                refine W_index_s Tryd.underlying9 rfl rfl ?_ (by first | with_reducible assumption | assumption | exact rfl | exact idx_getD (by first | omega | (simp; omega))) rfl ?_
                (focus (omega))
                refine W_guard_yes rfl ?_
                first
                  | (refine W_eql_t rfl rfl ?_ rfl ?_; (focus (omega)))
                  | (refine W_eql_f rfl rfl ?_ rfl ?_; (focus (omega)))
                  | (refine W_eql rfl rfl rfl ?_))
           first
             | (refine W_guard_no rfl rfl rfl ?_)
             | (refine W_guard_un rfl rfl ?_)
             | (refine W_guard_yes rfl ?_
                first
                  | (refine W_pick_t rfl rfl rfl ?_)
                  | (refine W_pick_f rfl rfl rfl ?_)
                  | (refine W_pick_b rfl rfl rfl rfl ?_))
           first
             | (refine W_pick_t rfl rfl rfl ?_)
             | (refine W_pick_f rfl rfl rfl ?_)
             | (refine W_pick_b rfl rfl rfl rfl ?_)
           refine W_nil ?_
           refine N_then_k ?_
           first
             | refine K_cond_d rfl (fun hc6 => ?_) (fun hc6 => ?_)
             | refine K_cond_n rfl (fun hc6 => ?_) (fun hc6 => ?_)
             | refine K_cond_nb rfl (fun hc6 => ?_) (fun hc6 => ?_)
             | refine K_cond_t rfl (fun hc6 => ?_) (fun hc6 => ?_)
           · try (exfalso; first | omega | (simp only [Bool.false_eq_true, reduceCtorEq] at hc6; done) | (refine absurd hc6 ?_; with_reducible assumption) | (refine absurd ?_ hc6; with_reducible assumption))
             all_goals (
              refine K_skip ?_
              refine N_then_k ?_
              refine K_block ?_
              refine K_region ?_
              refine W_move rfl rfl ?_
              first
                | (refine W_sub rfl rfl (wr_i64 ?_) rfl ?_; (focus (omega)))
                | (refine W_sub rfl rfl rfl rfl ?_)
              refine W_assign rfl rfl ?_
              refine W_nil ?_
              refine N_block_normal ?_
              refine N_again (g - 1) (sub_end ?_ ?_) ?_ ?_
              · repeat' (first | exact sub_lst_nil (sub_nil _) | refine sub_lst rfl ?_ | (refine sub_lst_eq rfl ?_ ?_; · first | rfl | (simp; done) | (congr 1; omega)))
              · repeat' (first | exact sub_refl _ | exact sub_strip _ _ | refine sub_s_cons rfl ?_ | refine sub_s_lst rfl ?_ | refine sub_s_strip rfl ?_)
              · refine ⟨hp, by omega, by omega, ?_⟩
                rw [← hf2, cut_trim hc hlt (by omega)]
              · omega)
           · try (exfalso; first | omega | (simp only [Bool.false_eq_true, reduceCtorEq] at hc6; done) | (refine absurd hc6 ?_; with_reducible assumption) | (refine absurd ?_ hc6; with_reducible assumption))
             all_goals (
              refine K_exit ?_
              refine N_then_exit ?_
              refine N_then_exit ?_
              refine N_block_exit ?_
              refine N_mid (g) (sub_end ?_ ?_) ?_
              · repeat' (first | exact sub_lst_nil (sub_nil _) | refine sub_lst rfl ?_ | (refine sub_lst_eq rfl ?_ ?_; · first | rfl | (simp; done) | (congr 1; omega)))
              · repeat' (first | exact sub_refl _ | exact sub_strip _ _ | refine sub_s_cons rfl ?_ | refine sub_s_lst rfl ?_ | refine sub_s_strip rfl ?_)
              · refine ⟨hp, hle2, hle3, hf2, ?_⟩
                first | exact .inl (by omega) | exact .inr ⟨c, hc, by omega⟩))))
    · intro g w hJ
      clear hp
      obtain ⟨hp, hle2, hle3, hf2, hf3⟩ := hJ
      refine K_seq ?_
      refine K_region ?_
      refine W_move rfl rfl ?_
      refine W_move rfl rfl ?_
      refine W_move rfl rfl ?_
      have hsl := slice_trim hf1 hle hle3 hle2 hf2 hf3
      refine W_slice_slh Tryd.underlying9 rfl rfl rfl ?_ ?_ ?_ rfl ?_
      (focus (first | omega | (simp; omega) | (simp only [List.length_drop, List.length_take, List.length_append]; omega)))
      (focus (first | omega | (simp; omega) | (simp only [List.length_drop, List.length_take, List.length_append]; omega)))
      (focus (first | omega | (simp; omega) | (simp only [List.length_drop, List.length_take, List.length_append]; omega)))
      refine W_assign rfl rfl ?_
      refine W_nil ?_
      refine N_then_k ?_
      refine K_ret ?_
      refine N_done1 (.inr rfl) rfl rfl ?_
      refine ⟨_, rfl, congrArg strV hsl, hp.nil⟩

theorem lower_length (s : List UInt8) : (lower s).length = s.length := by simp [lower]
theorem trim_length (s : List UInt8) : (trim s).length ≤ s.length := by
  unfold trim trimR trimL
  rw [List.length_reverse]
  refine Nat.le_trans (List.dropWhile_sublist _).length_le ?_
  rw [List.length_reverse]
  exact (List.dropWhile_sublist _).length_le
theorem lowerC_lowerC : ∀ c : UInt8, lowerC (lowerC c) = lowerC c := u8_all (by decide +kernel)
theorem blank_lowerC : ∀ c : UInt8, blankB (lowerC c) = blankB c := u8_all (by decide +kernel)
theorem lower_lower (s : List UInt8) : lower (lower s) = lower s := by simp [lower, lowerC_lowerC]
theorem dropWhile_map_lower (s : List UInt8) : (s.map lowerC).dropWhile blankB = (s.dropWhile blankB).map lowerC := by
  induction s with
  | nil => rfl
  | cons c s ih => simp only [List.map_cons, List.dropWhile_cons, blank_lowerC]; split <;> simp [ih]
theorem trim_lower (s : List UInt8) : trim (lower s) = lower (trim s) := by
  simp only [trim, trimR, trimL, lower, dropWhile_map_lower, ← List.map_reverse]
theorem dropWhile_fix {p : UInt8 → Bool} (s : List UInt8) : (s.dropWhile p).dropWhile p = s.dropWhile p := by
  induction s with
  | nil => rfl
  | cons c s ih => 
    simp only [List.dropWhile_cons]
    split
    · exact ih
    · simp_all [List.dropWhile_cons]
theorem trimL_head {s : List UInt8} (h : ∀ c, s[0]? = some c → blankB c = false) : trimL s = s := by
  cases s with
  | nil => rfl
  | cons c s => exact trimL_cons (h c rfl)
theorem dropWhile_head {p : UInt8 → Bool} : ∀ (s : List UInt8) c, (s.dropWhile p)[0]? = some c → p c = false
  | [], c, h => by simp at h
  | x :: s, c, h => by
    simp only [List.dropWhile_cons] at h
    split at h
    · exact dropWhile_head s c h
    · simp at h; subst h; exact Bool.eq_false_iff.2 ‹¬p x = true›
theorem trimR_prefix (s : List UInt8) : trimR s <+: s := by
  have := List.dropWhile_suffix (l := s.reverse) blankB
  unfold trimR
  have h2 := List.reverse_prefix.2 this
  rwa [List.reverse_reverse] at h2
theorem trimL_trimR (s : List UInt8) (h : trimL s = s) : trimL (trimR s) = trimR s := by
  apply trimL_head
  intro c hc
  obtain ⟨q, hq⟩ := trimR_prefix s
  have h0 : s[0]? = some c := by rw [← hq, List.getElem?_append_left (by have := (List.getElem?_eq_some_iff.1 hc).1; omega)]; exact hc
  rw [← h] at h0
  exact dropWhile_head s c h0
theorem trim_trim (s : List UInt8) : trim (trim s) = trim s := by
  have h1 : trimL (trim s) = trim s := trimL_trimR _ (dropWhile_fix s)
  show trimR (trimL (trim s)) = trim s
  rw [h1]
  show trimR (trimR (trimL s)) = trimR (trimL s)
  unfold trimR
  rw [List.reverse_reverse, dropWhile_fix]
theorem trimL_rep (m : Nat) (s : List UInt8) : trimL (List.replicate m 32 ++ s) = trimL s := by
  induction m with
  | zero => rfl
  | succ m ih => rw [List.replicate_succ, List.cons_append, trimL_cons_blank (by decide), ih]
theorem trimR_rep (m : Nat) (s : List UInt8) : trimR (s ++ List.replicate m 9) = trimR s := by
  induction m with
  | zero => simp
  | succ m ih => rw [List.replicate_succ', ← List.append_assoc, trimR_snoc_blank (by decide), ih]
theorem trimL_all {m : Nat} : trimL (List.replicate m 9) = [] := by
  induction m with
  | zero => rfl
  | succ m ih => rw [List.replicate_succ, trimL_cons_blank (by decide), ih]
theorem trimL_app (s : List UInt8) (m : Nat) : trimL (s ++ List.replicate m 9) = trimL s ++ List.replicate m 9 ∨ (trimL s = [] ∧ trimL (s ++ List.replicate m 9) = []) := by
  induction s with
  | nil => right; exact ⟨rfl, trimL_all⟩
  | cons c s ih =>
    cases h : blankB c with
    | true => rw [List.cons_append, trimL_cons_blank h, trimL_cons_blank h]; exact ih
    | false => left; rw [List.cons_append, trimL_cons h, trimL_cons h]; rfl
theorem trim_blanks (a : List UInt8) (m m2 : Nat) : trim (List.replicate m 32 ++ a ++ List.replicate m2 9) = trim a := by
  unfold trim
  rw [List.append_assoc, trimL_rep]
  rcases trimL_app a m2 with h | ⟨h1, h2⟩
  · rw [h, trimR_rep]
  · rw [h1, h2]
theorem trim_none : trim [] = [] := rfl
theorem token_not58 : ∀ c : UInt8, TokenP c.toNat → c ≠ 58 ∧ c ≠ 32 ∧ c ≠ 9 ∧ FieldP c.toNat := u8_all (by decide +kernel)
theorem token_lowerC : ∀ c : UInt8, tokenB (lowerC c) = tokenB c := u8_all (by decide +kernel)
theorem isToken_lower (s : List UInt8) : isToken (lower s) = isToken s := by
  unfold isToken lower
  rw [List.isEmpty_map, List.all_map]
  congr 1
  exact List.all_congr rfl (fun c => token_lowerC c)
theorem blank_field : ∀ c : UInt8, blankB c = true → FieldP c.toNat := u8_all (by decide +kernel)
theorem isToken_all {s : List UInt8} (h : isToken s = true) : ∀ c ∈ s, TokenP c.toNat := by
  simp only [isToken, Bool.and_eq_true, List.all_eq_true] at h
  exact fun c hc => of_decide_eq_true (h.2 c hc)

end Go.Proofs.YtjmfjdmpbkdceaaDoor
