/-
  Packages octet and doorkeeperref02 at this program.
-/
import Derived.Test.YtcanebnegfnhdaaDoorSxT
import Derived.Test.YtcanebnegfnhdaaDoorSxRow
namespace Go.Proofs.YtcanebnegfnhdaaDoor
open Go.Sx Go.RowKit
set_option linter.unusedVariables false
set_option linter.unusedSimpArgs false
set_option maxRecDepth 100000

/-! ### Package octet: what its functions say of a byte's number -/
abbrev LetterP (n : Nat) : Prop := (65 ≤ n ∧ n ≤ 90) ∨ (97 ≤ n ∧ n ≤ 122)
abbrev DigitP (n : Nat) : Prop := 48 ≤ n ∧ n ≤ 57
abbrev AlnumP (n : Nat) : Prop := LetterP n ∨ DigitP n
abbrev TokenP (n : Nat) : Prop := n = 33 ∨ n = 35 ∨ n = 36 ∨ n = 37 ∨ n = 38 ∨ n = 39 ∨ n = 42 ∨ n = 43 ∨ n = 45 ∨ n = 46 ∨ n = 94 ∨ n = 95 ∨ n = 96 ∨ n = 124 ∨ n = 126 ∨ AlnumP n
abbrev UnresP (n : Nat) : Prop := n = 45 ∨ n = 46 ∨ n = 95 ∨ n = 126 ∨ AlnumP n
abbrev PathP (n : Nat) : Prop := n = 33 ∨ n = 36 ∨ n = 38 ∨ n = 39 ∨ n = 40 ∨ n = 41 ∨ n = 42 ∨ n = 43 ∨ n = 44 ∨ n = 59 ∨ n = 61 ∨ n = 58 ∨ n = 64 ∨ UnresP n
abbrev FieldP (n : Nat) : Prop := n = 9 ∨ (32 ≤ n ∧ n ≤ 126) ∨ 128 ≤ n
abbrev BlankP (n : Nat) : Prop := n = 32 ∨ n = 9
/-- The value of a hexadecimal digit, or -1. -/
def hexI (n : Nat) : Int := if 48 ≤ n ∧ n ≤ 57 then (n : Int) - 48 else if 97 ≤ n ∧ n ≤ 102 then (n : Int) - 87 else if 65 ≤ n ∧ n ≤ 70 then (n : Int) - 55 else -1
theorem hexI_range (n : Nat) : -1 ≤ hexI n ∧ hexI n ≤ 15 := by unfold hexI; (repeat' split) <;> omega
def tokenB (c : UInt8) : Bool := decide (TokenP c.toNat)
def pathB (c : UInt8) : Bool := decide (PathP c.toNat)
def fieldB (c : UInt8) : Bool := decide (FieldP c.toNat)
def unresB (c : UInt8) : Bool := decide (UnresP c.toNat)
def letterB (c : UInt8) : Bool := decide (LetterP c.toNat)
def digitB (c : UInt8) : Bool := decide (DigitP c.toNat)
def blankB (c : UInt8) : Bool := decide (BlankP c.toNat)
def isToken (s : List UInt8) : Bool := !s.isEmpty && s.all tokenB
def lowerC (c : UInt8) : UInt8 := if 65 ≤ c.toNat ∧ c.toNat ≤ 90 then c + 32 else c
def lower (s : List UInt8) : List UInt8 := s.map lowerC
def trimL (s : List UInt8) : List UInt8 := s.dropWhile blankB
def trimR (s : List UInt8) : List UInt8 := (s.reverse.dropWhile blankB).reverse
def trim (s : List UInt8) : List UInt8 := trimR (trimL s)
theorem lowerC_val (c : UInt8) : ((lowerC c).toNat : Int) = if 65 ≤ c.toNat ∧ c.toNat ≤ 90 then (c.toNat : Int) + 32 else c.toNat := by
  unfold lowerC
  split
  · rw [UInt8.toNat_add]; have : (32 : UInt8).toNat = 32 := rfl; omega
  · rfl
theorem all_take {p : UInt8 → Bool} {s : List UInt8} {k : Nat} {c : UInt8} (h : s[k]? = some c) : (s.take (k + 1)).all p = ((s.take k).all p && p c) := by
  have e : s.take (k + 1) = s.take k ++ [c] := by rw [List.take_add_one, h]; rfl
  rw [e, List.all_append]; simp
theorem all_not {p : UInt8 → Bool} {s : List UInt8} {k : Nat} {c : UInt8} (h : s[k]? = some c) (hc : p c = false) : s.all p = false := by
  rw [List.all_eq_false]
  exact ⟨c, List.mem_of_getElem? h, by simp [hc]⟩
theorem trimR_snoc_blank {s : List UInt8} {c : UInt8} (h : blankB c = true) : trimR (s ++ [c]) = trimR s := by simp [trimR, h]
theorem trimR_snoc {s : List UInt8} {c : UInt8} (h : blankB c = false) : trimR (s ++ [c]) = s ++ [c] := by simp [trimR, h]
theorem trimL_cons_blank {s : List UInt8} {c : UInt8} (h : blankB c = true) : trimL (c :: s) = trimL s := by simp [trimL, List.dropWhile_cons, h]
theorem trimL_cons {s : List UInt8} {c : UInt8} (h : blankB c = false) : trimL (c :: s) = c :: s := by simp [trimL, List.dropWhile_cons, h]
theorem snoc_of {s : List UInt8} (h : 0 < s.length) : ∃ (r : List UInt8) (c : UInt8), s = r ++ [c] ∧ s[s.length - 1]? = some c ∧ s.take (s.length - 1) = r := by
  rcases List.eq_nil_or_concat s with rfl | ⟨r, c, rfl⟩
  · simp at h
  · exact ⟨r, c, by simp, by simp, by simp⟩

theorem within_spec (x lo hi : Int) : PureF Tryd.prog 105 [.int .u8 x, .int .u8 lo, .int .u8 hi] (.bool (decide (lo ≤ x ∧ x ≤ hi))) := by
  refine PureF.intro go105 Tryd.func105 rfl rfl fun w0 hp => ?_
  refine K_seq ?_
  refine K_region ?_
  refine W_assign rfl rfl ?_
  refine W_nil ?_
  refine N_then_k ?_
  refine K_seq ?_
  refine K_region ?_
  refine W_move rfl rfl ?_
  refine W_move rfl rfl ?_
  first
    | (refine W_geq_t rfl rfl ?_ rfl ?_; (focus (omega)))
    | (refine W_geq_f rfl rfl ?_ rfl ?_; (focus (omega)))
    | (refine W_geq rfl rfl rfl ?_)
  refine W_move rfl rfl ?_
  first
    | refine W_guard_lit_t rfl ?_
    | refine W_guard_lit_f rfl ?_
    | refine W_guard_lit_u rfl ?_
    | refine W_guard_split_d rfl rfl rfl (fun hg1 => ?_) (fun hg1 => ?_)
    | refine W_guard_split_n rfl rfl rfl (fun hg1 => ?_) (fun hg1 => ?_)
    | refine W_guard_split_nb rfl rfl rfl (fun hg1 => ?_) (fun hg1 => ?_)
    | refine W_guard_split rfl rfl rfl (fun hg1 => ?_) (fun hg1 => ?_)
  all_goals try (exfalso; first | omega | (simp only [Bool.false_eq_true, reduceCtorEq] at hg1; done) | (refine absurd hg1 ?_; with_reducible assumption) | (refine absurd ?_ hg1; with_reducible assumption))
  all_goals (
   first
     | (iterate 3 refine W_guard_no rfl rfl rfl ?_)
     | (iterate 3 refine W_guard_un rfl rfl ?_)
     | (refine W_guard_yes rfl ?_
        refine W_move rfl rfl ?_
        refine W_guard_yes rfl ?_
        refine W_move rfl rfl ?_
        refine W_guard_yes rfl ?_
        first
          | (refine W_leq_t rfl rfl ?_ rfl ?_; (focus (omega)))
          | (refine W_leq_f rfl rfl ?_ rfl ?_; (focus (omega)))
          | (refine W_leq rfl rfl rfl ?_))
   first
     | (refine W_pick_t rfl rfl rfl ?_)
     | (refine W_pick_f rfl rfl rfl ?_)
     | (refine W_pick_b rfl rfl rfl rfl ?_)
   refine W_assign rfl rfl ?_
   refine W_nil ?_
   refine N_then_k ?_
   refine K_ret ?_
   refine N_done1 (.inr rfl) rfl rfl ?_
   refine ⟨_, rfl, congrArg Value.bool ?_, hp.nil⟩
   first
     | rfl
     | (refine Bool.eq_iff_iff.2 ?_; simp only [Bool.not_eq_true', decide_eq_true_eq, decide_eq_false_iff_not]; omega)
     | (refine (decide_eq_true ?_).symm; omega)
     | (refine (decide_eq_false ?_).symm; omega)
     | (refine decide_eq_decide.2 ?_; omega))

theorem letter_spec (c : UInt8) : PureF Tryd.prog 106 [.int .u8 (c.toNat : Int)] (.bool (decide (LetterP c.toNat))) := by
  have hu := c.toNat_lt
  refine PureF.intro go106 Tryd.func106 rfl rfl fun w0 hp => ?_
  refine K_seq ?_
  refine K_region ?_
  refine W_assign rfl rfl ?_
  refine W_nil ?_
  refine N_then_k ?_
  refine K_seq ?_
  refine K_region ?_
  refine W_move rfl rfl ?_
  refine W_pcall hp rfl (within_spec _ _ _) rfl ?_
  clear hp; intro w hp
  refine W_move rfl rfl ?_
  first
    | refine W_guard_lit_t rfl ?_
    | refine W_guard_lit_f rfl ?_
    | refine W_guard_lit_u rfl ?_
    | refine W_guard_split_d rfl rfl rfl (fun hg1 => ?_) (fun hg1 => ?_)
    | refine W_guard_split_n rfl rfl rfl (fun hg1 => ?_) (fun hg1 => ?_)
    | refine W_guard_split_nb rfl rfl rfl (fun hg1 => ?_) (fun hg1 => ?_)
    | refine W_guard_split rfl rfl rfl (fun hg1 => ?_) (fun hg1 => ?_)
  all_goals try (exfalso; first | omega | (simp only [Bool.false_eq_true, reduceCtorEq] at hg1; done) | (refine absurd hg1 ?_; with_reducible assumption) | (refine absurd ?_ hg1; with_reducible assumption))
  all_goals (
   first
     | (iterate 2 refine W_guard_no rfl rfl rfl ?_)
     | (iterate 2 refine W_guard_un rfl rfl ?_)
     | (refine W_guard_yes rfl ?_
        refine W_move rfl rfl ?_
        refine W_guard_yes rfl ?_
        refine W_pcall hp rfl (within_spec _ _ _) rfl ?_
        clear hp; intro w hp)
   first
     | (refine W_pick_t rfl rfl rfl ?_)
     | (refine W_pick_f rfl rfl rfl ?_)
     | (refine W_pick_b rfl rfl rfl rfl ?_)
   refine W_assign rfl rfl ?_
   refine W_nil ?_
   refine N_then_k ?_
   refine K_ret ?_
   refine N_done1 (.inr rfl) rfl rfl ?_
   refine ⟨_, rfl, congrArg Value.bool ?_, hp.nil⟩
   first
     | rfl
     | (refine Bool.eq_iff_iff.2 ?_; simp only [Bool.not_eq_true', decide_eq_true_eq, decide_eq_false_iff_not]; omega)
     | (refine (decide_eq_true ?_).symm; omega)
     | (refine (decide_eq_false ?_).symm; omega)
     | (refine decide_eq_decide.2 ?_; omega))

theorem digit_spec (c : UInt8) : PureF Tryd.prog 102 [.int .u8 (c.toNat : Int)] (.bool (decide (DigitP c.toNat))) := by
  have hu := c.toNat_lt
  refine PureF.intro go102 Tryd.func102 rfl rfl fun w0 hp => ?_
  refine K_seq ?_
  refine K_region ?_
  refine W_assign rfl rfl ?_
  refine W_nil ?_
  refine N_then_k ?_
  refine K_seq ?_
  refine K_region ?_
  refine W_move rfl rfl ?_
  refine W_pcall hp rfl (within_spec _ _ _) rfl ?_
  clear hp; intro w hp
  refine W_assign rfl rfl ?_
  refine W_nil ?_
  refine N_then_k ?_
  refine K_ret ?_
  refine N_done1 (.inr rfl) rfl rfl ?_
  refine ⟨_, rfl, congrArg Value.bool ?_, hp.nil⟩
  first
    | rfl
    | (refine Bool.eq_iff_iff.2 ?_; simp only [Bool.not_eq_true', decide_eq_true_eq, decide_eq_false_iff_not]; omega)
    | (refine (decide_eq_true ?_).symm; omega)
    | (refine (decide_eq_false ?_).symm; omega)
    | (refine decide_eq_decide.2 ?_; omega)

theorem alnum_spec (c : UInt8) : PureF Tryd.prog 103 [.int .u8 (c.toNat : Int)] (.bool (decide (AlnumP c.toNat))) := by
  have hu := c.toNat_lt
  refine PureF.intro go103 Tryd.func103 rfl rfl fun w0 hp => ?_
  refine K_seq ?_
  refine K_region ?_
  refine W_assign rfl rfl ?_
  refine W_nil ?_
  refine N_then_k ?_
  refine K_seq ?_
  refine K_region ?_
  refine W_move rfl rfl ?_
  refine W_pcall hp rfl (letter_spec c) rfl ?_
  clear hp; intro w hp
  refine W_move rfl rfl ?_
  first
    | refine W_guard_lit_t rfl ?_
    | refine W_guard_lit_f rfl ?_
    | refine W_guard_lit_u rfl ?_
    | refine W_guard_split_d rfl rfl rfl (fun hg1 => ?_) (fun hg1 => ?_)
    | refine W_guard_split_n rfl rfl rfl (fun hg1 => ?_) (fun hg1 => ?_)
    | refine W_guard_split_nb rfl rfl rfl (fun hg1 => ?_) (fun hg1 => ?_)
    | refine W_guard_split rfl rfl rfl (fun hg1 => ?_) (fun hg1 => ?_)
  all_goals try (exfalso; first | omega | (simp only [Bool.false_eq_true, reduceCtorEq] at hg1; done) | (refine absurd hg1 ?_; with_reducible assumption) | (refine absurd ?_ hg1; with_reducible assumption))
  all_goals (
   first
     | (iterate 2 refine W_guard_no rfl rfl rfl ?_)
     | (iterate 2 refine W_guard_un rfl rfl ?_)
     | (refine W_guard_yes rfl ?_
        refine W_move rfl rfl ?_
        refine W_guard_yes rfl ?_
        refine W_pcall hp rfl (digit_spec c) rfl ?_
        clear hp; intro w hp)
   first
     | (refine W_pick_t rfl rfl rfl ?_)
     | (refine W_pick_f rfl rfl rfl ?_)
     | (refine W_pick_b rfl rfl rfl rfl ?_)
   refine W_assign rfl rfl ?_
   refine W_nil ?_
   refine N_then_k ?_
   refine K_ret ?_
   refine N_done1 (.inr rfl) rfl rfl ?_
   refine ⟨_, rfl, congrArg Value.bool ?_, hp.nil⟩
   first
     | rfl
     | (refine Bool.eq_iff_iff.2 ?_; simp only [Bool.not_eq_true', decide_eq_true_eq, decide_eq_false_iff_not]; omega)
     | (refine (decide_eq_true ?_).symm; omega)
     | (refine (decide_eq_false ?_).symm; omega)
     | (refine decide_eq_decide.2 ?_; omega))

theorem token_spec (c : UInt8) : PureF Tryd.prog 100 [.int .u8 (c.toNat : Int)] (.bool (decide (TokenP c.toNat))) := by
  have hu := c.toNat_lt
  refine PureF.intro go100 Tryd.func100 rfl rfl fun w0 hp => ?_
  refine K_seq ?_
  refine K_region ?_
  refine W_assign rfl rfl ?_
  refine W_nil ?_
  refine N_then_k ?_
  refine K_seq ?_
  refine K_seq ?_
  refine K_region ?_
  refine W_move rfl rfl ?_
  refine W_nil ?_
  refine N_then_k ?_
  refine K_block ?_
  refine K_seq ?_
  refine K_block ?_
  refine K_block ?_
  refine K_seq ?_
  refine K_seq ?_
  refine K_mid (σ := Unit) [4, 5, 6, 7, 8, 9, 10, 11, 12]
      (fun _ => [(4, .bool (decide (c.toNat = 33 ∨ c.toNat = 35 ∨ c.toNat = 36 ∨ c.toNat = 37 ∨ c.toNat = 38 ∨ c.toNat = 39 ∨ c.toNat = 42 ∨ c.toNat = 43)))])
      (fun _ w => Hp w0 [] [] w) ?_ ?_
  · refine K_seq ?_
    refine K_region ?_
    first
      | (refine W_eql_t rfl rfl ?_ rfl ?_; (focus (omega)))
      | (refine W_eql_f rfl rfl ?_ rfl ?_; (focus (omega)))
      | (refine W_eql rfl rfl rfl ?_)
    refine W_assign rfl rfl ?_
    refine W_nil ?_
    refine N_then_k ?_
    first
      | refine K_cond_d rfl (fun hc1 => ?_) (fun hc1 => ?_)
      | refine K_cond_n rfl (fun hc1 => ?_) (fun hc1 => ?_)
      | refine K_cond_nb rfl (fun hc1 => ?_) (fun hc1 => ?_)
      | refine K_cond_t rfl (fun hc1 => ?_) (fun hc1 => ?_)
    · try (exfalso; first | omega | (simp only [Bool.false_eq_true, reduceCtorEq] at hc1; done) | (refine absurd hc1 ?_; with_reducible assumption) | (refine absurd ?_ hc1; with_reducible assumption))
      all_goals (
       refine K_skip ?_
       refine N_mid (()) (sub_end ?_ ?_) ?_
       · repeat' (first | exact sub_lst_nil (sub_nil _) | refine sub_lst rfl ?_ | (refine sub_lst_eq rfl ?_ ?_; · first | rfl | (first | (refine congrArg Value.bool (decide_eq_true ?_).symm; omega) | (refine congrArg Value.bool (decide_eq_decide.2 ?_); omega)) | (simp; done) | (congr 1; omega)))
       · repeat' (first | exact sub_refl _ | exact sub_strip _ _ | refine sub_s_cons rfl ?_ | refine sub_s_lst rfl ?_ | refine sub_s_strip rfl ?_)
       · exact hp)
    · try (exfalso; first | omega | (simp only [Bool.false_eq_true, reduceCtorEq] at hc1; done) | (refine absurd hc1 ?_; with_reducible assumption) | (refine absurd ?_ hc1; with_reducible assumption))
      all_goals (
       refine K_seq ?_
       refine K_region ?_
       first
         | (refine W_eql_t rfl rfl ?_ rfl ?_; (focus (omega)))
         | (refine W_eql_f rfl rfl ?_ rfl ?_; (focus (omega)))
         | (refine W_eql rfl rfl rfl ?_)
       refine W_assign rfl rfl ?_
       refine W_nil ?_
       refine N_then_k ?_
       first
         | refine K_cond_d rfl (fun hc2 => ?_) (fun hc2 => ?_)
         | refine K_cond_n rfl (fun hc2 => ?_) (fun hc2 => ?_)
         | refine K_cond_nb rfl (fun hc2 => ?_) (fun hc2 => ?_)
         | refine K_cond_t rfl (fun hc2 => ?_) (fun hc2 => ?_)
       · try (exfalso; first | omega | (simp only [Bool.false_eq_true, reduceCtorEq] at hc2; done) | (refine absurd hc2 ?_; with_reducible assumption) | (refine absurd ?_ hc2; with_reducible assumption))
         all_goals (
          refine K_skip ?_
          refine N_mid (()) (sub_end ?_ ?_) ?_
          · repeat' (first | exact sub_lst_nil (sub_nil _) | refine sub_lst rfl ?_ | (refine sub_lst_eq rfl ?_ ?_; · first | rfl | (first | (refine congrArg Value.bool (decide_eq_true ?_).symm; omega) | (refine congrArg Value.bool (decide_eq_decide.2 ?_); omega)) | (simp; done) | (congr 1; omega)))
          · repeat' (first | exact sub_refl _ | exact sub_strip _ _ | refine sub_s_cons rfl ?_ | refine sub_s_lst rfl ?_ | refine sub_s_strip rfl ?_)
          · exact hp)
       · try (exfalso; first | omega | (simp only [Bool.false_eq_true, reduceCtorEq] at hc2; done) | (refine absurd hc2 ?_; with_reducible assumption) | (refine absurd ?_ hc2; with_reducible assumption))
         all_goals (
          refine K_seq ?_
          refine K_region ?_
          first
            | (refine W_eql_t rfl rfl ?_ rfl ?_; (focus (omega)))
            | (refine W_eql_f rfl rfl ?_ rfl ?_; (focus (omega)))
            | (refine W_eql rfl rfl rfl ?_)
          refine W_assign rfl rfl ?_
          refine W_nil ?_
          refine N_then_k ?_
          first
            | refine K_cond_d rfl (fun hc3 => ?_) (fun hc3 => ?_)
            | refine K_cond_n rfl (fun hc3 => ?_) (fun hc3 => ?_)
            | refine K_cond_nb rfl (fun hc3 => ?_) (fun hc3 => ?_)
            | refine K_cond_t rfl (fun hc3 => ?_) (fun hc3 => ?_)
          · try (exfalso; first | omega | (simp only [Bool.false_eq_true, reduceCtorEq] at hc3; done) | (refine absurd hc3 ?_; with_reducible assumption) | (refine absurd ?_ hc3; with_reducible assumption))
            all_goals (
             refine K_skip ?_
             refine N_mid (()) (sub_end ?_ ?_) ?_
             · repeat' (first | exact sub_lst_nil (sub_nil _) | refine sub_lst rfl ?_ | (refine sub_lst_eq rfl ?_ ?_; · first | rfl | (first | (refine congrArg Value.bool (decide_eq_true ?_).symm; omega) | (refine congrArg Value.bool (decide_eq_decide.2 ?_); omega)) | (simp; done) | (congr 1; omega)))
             · repeat' (first | exact sub_refl _ | exact sub_strip _ _ | refine sub_s_cons rfl ?_ | refine sub_s_lst rfl ?_ | refine sub_s_strip rfl ?_)
             · exact hp)
          · try (exfalso; first | omega | (simp only [Bool.false_eq_true, reduceCtorEq] at hc3; done) | (refine absurd hc3 ?_; with_reducible assumption) | (refine absurd ?_ hc3; with_reducible assumption))
            all_goals (
             refine K_seq ?_
             refine K_region ?_
             first
               | (refine W_eql_t rfl rfl ?_ rfl ?_; (focus (omega)))
               | (refine W_eql_f rfl rfl ?_ rfl ?_; (focus (omega)))
               | (refine W_eql rfl rfl rfl ?_)
             refine W_assign rfl rfl ?_
             refine W_nil ?_
             refine N_then_k ?_
             first
               | refine K_cond_d rfl (fun hc4 => ?_) (fun hc4 => ?_)
               | refine K_cond_n rfl (fun hc4 => ?_) (fun hc4 => ?_)
               | refine K_cond_nb rfl (fun hc4 => ?_) (fun hc4 => ?_)
               | refine K_cond_t rfl (fun hc4 => ?_) (fun hc4 => ?_)
             · try (exfalso; first | omega | (simp only [Bool.false_eq_true, reduceCtorEq] at hc4; done) | (refine absurd hc4 ?_; with_reducible assumption) | (refine absurd ?_ hc4; with_reducible assumption))
               all_goals (
                refine K_skip ?_
                refine N_mid (()) (sub_end ?_ ?_) ?_
                · repeat' (first | exact sub_lst_nil (sub_nil _) | refine sub_lst rfl ?_ | (refine sub_lst_eq rfl ?_ ?_; · first | rfl | (first | (refine congrArg Value.bool (decide_eq_true ?_).symm; omega) | (refine congrArg Value.bool (decide_eq_decide.2 ?_); omega)) | (simp; done) | (congr 1; omega)))
                · repeat' (first | exact sub_refl _ | exact sub_strip _ _ | refine sub_s_cons rfl ?_ | refine sub_s_lst rfl ?_ | refine sub_s_strip rfl ?_)
                · exact hp)
             · try (exfalso; first | omega | (simp only [Bool.false_eq_true, reduceCtorEq] at hc4; done) | (refine absurd hc4 ?_; with_reducible assumption) | (refine absurd ?_ hc4; with_reducible assumption))
               all_goals (
                refine K_seq ?_
                refine K_region ?_
                first
                  | (refine W_eql_t rfl rfl ?_ rfl ?_; (focus (omega)))
                  | (refine W_eql_f rfl rfl ?_ rfl ?_; (focus (omega)))
                  | (refine W_eql rfl rfl rfl ?_)
                refine W_assign rfl rfl ?_
                refine W_nil ?_
                refine N_then_k ?_
                first
                  | refine K_cond_d rfl (fun hc5 => ?_) (fun hc5 => ?_)
                  | refine K_cond_n rfl (fun hc5 => ?_) (fun hc5 => ?_)
                  | refine K_cond_nb rfl (fun hc5 => ?_) (fun hc5 => ?_)
                  | refine K_cond_t rfl (fun hc5 => ?_) (fun hc5 => ?_)
                · try (exfalso; first | omega | (simp only [Bool.false_eq_true, reduceCtorEq] at hc5; done) | (refine absurd hc5 ?_; with_reducible assumption) | (refine absurd ?_ hc5; with_reducible assumption))
                  all_goals (
                   refine K_skip ?_
                   refine N_mid (()) (sub_end ?_ ?_) ?_
                   · repeat' (first | exact sub_lst_nil (sub_nil _) | refine sub_lst rfl ?_ | (refine sub_lst_eq rfl ?_ ?_; · first | rfl | (first | (refine congrArg Value.bool (decide_eq_true ?_).symm; omega) | (refine congrArg Value.bool (decide_eq_decide.2 ?_); omega)) | (simp; done) | (congr 1; omega)))
                   · repeat' (first | exact sub_refl _ | exact sub_strip _ _ | refine sub_s_cons rfl ?_ | refine sub_s_lst rfl ?_ | refine sub_s_strip rfl ?_)
                   · exact hp)
                · try (exfalso; first | omega | (simp only [Bool.false_eq_true, reduceCtorEq] at hc5; done) | (refine absurd hc5 ?_; with_reducible assumption) | (refine absurd ?_ hc5; with_reducible assumption))
                  all_goals (
                   refine K_seq ?_
                   refine K_region ?_
                   first
                     | (refine W_eql_t rfl rfl ?_ rfl ?_; (focus (omega)))
                     | (refine W_eql_f rfl rfl ?_ rfl ?_; (focus (omega)))
                     | (refine W_eql rfl rfl rfl ?_)
                   refine W_assign rfl rfl ?_
                   refine W_nil ?_
                   refine N_then_k ?_
                   first
                     | refine K_cond_d rfl (fun hc6 => ?_) (fun hc6 => ?_)
                     | refine K_cond_n rfl (fun hc6 => ?_) (fun hc6 => ?_)
                     | refine K_cond_nb rfl (fun hc6 => ?_) (fun hc6 => ?_)
                     | refine K_cond_t rfl (fun hc6 => ?_) (fun hc6 => ?_)
                   · try (exfalso; first | omega | (simp only [Bool.false_eq_true, reduceCtorEq] at hc6; done) | (refine absurd hc6 ?_; with_reducible assumption) | (refine absurd ?_ hc6; with_reducible assumption))
                     all_goals (
                      refine K_skip ?_
                      refine N_mid (()) (sub_end ?_ ?_) ?_
                      · repeat' (first | exact sub_lst_nil (sub_nil _) | refine sub_lst rfl ?_ | (refine sub_lst_eq rfl ?_ ?_; · first | rfl | (first | (refine congrArg Value.bool (decide_eq_true ?_).symm; omega) | (refine congrArg Value.bool (decide_eq_decide.2 ?_); omega)) | (simp; done) | (congr 1; omega)))
                      · repeat' (first | exact sub_refl _ | exact sub_strip _ _ | refine sub_s_cons rfl ?_ | refine sub_s_lst rfl ?_ | refine sub_s_strip rfl ?_)
                      · exact hp)
                   · try (exfalso; first | omega | (simp only [Bool.false_eq_true, reduceCtorEq] at hc6; done) | (refine absurd hc6 ?_; with_reducible assumption) | (refine absurd ?_ hc6; with_reducible assumption))
                     all_goals (
                      refine K_seq ?_
                      refine K_region ?_
                      first
                        | (refine W_eql_t rfl rfl ?_ rfl ?_; (focus (omega)))
                        | (refine W_eql_f rfl rfl ?_ rfl ?_; (focus (omega)))
                        | (refine W_eql rfl rfl rfl ?_)
                      refine W_assign rfl rfl ?_
                      refine W_nil ?_
                      refine N_then_k ?_
                      first
                        | refine K_cond_d rfl (fun hc7 => ?_) (fun hc7 => ?_)
                        | refine K_cond_n rfl (fun hc7 => ?_) (fun hc7 => ?_)
                        | refine K_cond_nb rfl (fun hc7 => ?_) (fun hc7 => ?_)
                        | refine K_cond_t rfl (fun hc7 => ?_) (fun hc7 => ?_)
                      · try (exfalso; first | omega | (simp only [Bool.false_eq_true, reduceCtorEq] at hc7; done) | (refine absurd hc7 ?_; with_reducible assumption) | (refine absurd ?_ hc7; with_reducible assumption))
                        all_goals (
                         refine K_skip ?_
                         refine N_mid (()) (sub_end ?_ ?_) ?_
                         · repeat' (first | exact sub_lst_nil (sub_nil _) | refine sub_lst rfl ?_ | (refine sub_lst_eq rfl ?_ ?_; · first | rfl | (first | (refine congrArg Value.bool (decide_eq_true ?_).symm; omega) | (refine congrArg Value.bool (decide_eq_decide.2 ?_); omega)) | (simp; done) | (congr 1; omega)))
                         · repeat' (first | exact sub_refl _ | exact sub_strip _ _ | refine sub_s_cons rfl ?_ | refine sub_s_lst rfl ?_ | refine sub_s_strip rfl ?_)
                         · exact hp)
                      · try (exfalso; first | omega | (simp only [Bool.false_eq_true, reduceCtorEq] at hc7; done) | (refine absurd hc7 ?_; with_reducible assumption) | (refine absurd ?_ hc7; with_reducible assumption))
                        all_goals (
                         refine K_region ?_
                         first
                           | (refine W_eql_t rfl rfl ?_ rfl ?_; (focus (omega)))
                           | (refine W_eql_f rfl rfl ?_ rfl ?_; (focus (omega)))
                           | (refine W_eql rfl rfl rfl ?_)
                         refine W_assign rfl rfl ?_
                         refine W_nil ?_
                         refine N_mid (()) (sub_end ?_ ?_) ?_
                         · repeat' (first | exact sub_lst_nil (sub_nil _) | refine sub_lst rfl ?_ | (refine sub_lst_eq rfl ?_ ?_; · first | rfl | (first | (refine congrArg Value.bool (decide_eq_true ?_).symm; omega) | (refine congrArg Value.bool (decide_eq_decide.2 ?_); omega)) | (simp; done) | (congr 1; omega)))
                         · repeat' (first | exact sub_refl _ | exact sub_strip _ _ | refine sub_s_cons rfl ?_ | refine sub_s_lst rfl ?_ | refine sub_s_strip rfl ?_)
                         · exact hp)))))))
  · intro _ w hJ
    have hp := hJ
    first
      | refine K_cond_d rfl (fun hc8 => ?_) (fun hc8 => ?_)
      | refine K_cond_n rfl (fun hc8 => ?_) (fun hc8 => ?_)
      | refine K_cond_nb rfl (fun hc8 => ?_) (fun hc8 => ?_)
      | refine K_cond_t rfl (fun hc8 => ?_) (fun hc8 => ?_)
    · try (exfalso; first | omega | (simp only [Bool.false_eq_true, reduceCtorEq] at hc8; done) | (refine absurd hc8 ?_; with_reducible assumption) | (refine absurd ?_ hc8; with_reducible assumption))
      all_goals (
       refine K_exit ?_
       refine N_then_exit ?_
       refine N_then_exit ?_
       refine N_block_exit ?_
       refine N_block_normal ?_
       refine N_then_k ?_
       refine K_seq ?_
       refine K_seq ?_
       refine K_region ?_
       refine W_assign rfl rfl ?_
       refine W_nil ?_
       refine N_then_k ?_
       refine K_ret ?_
       refine N_then_ret ?_
       refine N_block_ret ?_
       refine N_then_ret ?_
       refine N_done1 (.inr rfl) rfl rfl ?_
       refine ⟨_, rfl, congrArg Value.bool ?_, hp.nil⟩
       first
         | rfl
         | (refine Bool.eq_iff_iff.2 ?_; simp only [Bool.not_eq_true', decide_eq_true_eq, decide_eq_false_iff_not]; omega)
         | (refine (decide_eq_true ?_).symm; omega)
         | (refine (decide_eq_false ?_).symm; omega)
         | (refine decide_eq_decide.2 ?_; omega))
    · try (exfalso; first | omega | (simp only [Bool.false_eq_true, reduceCtorEq] at hc8; done) | (refine absurd hc8 ?_; with_reducible assumption) | (refine absurd ?_ hc8; with_reducible assumption))
      all_goals (
       refine K_skip ?_
       refine N_then_k ?_
       refine K_mid (σ := Unit) [13, 14, 15, 16, 17, 18, 19, 20]
           (fun _ => [(13, .bool (decide (c.toNat = 45 ∨ c.toNat = 46 ∨ c.toNat = 94 ∨ c.toNat = 95 ∨ c.toNat = 96 ∨ c.toNat = 124 ∨ c.toNat = 126)))])
           (fun _ w => Hp w0 [] [] w) ?_ ?_
       · refine K_seq ?_
         refine K_region ?_
         first
           | (refine W_eql_t rfl rfl ?_ rfl ?_; (focus (omega)))
           | (refine W_eql_f rfl rfl ?_ rfl ?_; (focus (omega)))
           | (refine W_eql rfl rfl rfl ?_)
         refine W_assign rfl rfl ?_
         refine W_nil ?_
         refine N_then_k ?_
         first
           | refine K_cond_d rfl (fun hc9 => ?_) (fun hc9 => ?_)
           | refine K_cond_n rfl (fun hc9 => ?_) (fun hc9 => ?_)
           | refine K_cond_nb rfl (fun hc9 => ?_) (fun hc9 => ?_)
           | refine K_cond_t rfl (fun hc9 => ?_) (fun hc9 => ?_)
         · try (exfalso; first | omega | (simp only [Bool.false_eq_true, reduceCtorEq] at hc9; done) | (refine absurd hc9 ?_; with_reducible assumption) | (refine absurd ?_ hc9; with_reducible assumption))
           all_goals (
            refine K_skip ?_
            refine N_mid (()) (sub_end ?_ ?_) ?_
            · repeat' (first | exact sub_lst_nil (sub_nil _) | refine sub_lst rfl ?_ | (refine sub_lst_eq rfl ?_ ?_; · first | rfl | (first | (refine congrArg Value.bool (decide_eq_true ?_).symm; omega) | (refine congrArg Value.bool (decide_eq_decide.2 ?_); omega)) | (simp; done) | (congr 1; omega)))
            · repeat' (first | exact sub_refl _ | exact sub_strip _ _ | refine sub_s_cons rfl ?_ | refine sub_s_lst rfl ?_ | refine sub_s_strip rfl ?_)
            · exact hp)
         · try (exfalso; first | omega | (simp only [Bool.false_eq_true, reduceCtorEq] at hc9; done) | (refine absurd hc9 ?_; with_reducible assumption) | (refine absurd ?_ hc9; with_reducible assumption))
           all_goals (
            refine K_seq ?_
            refine K_region ?_
            first
              | (refine W_eql_t rfl rfl ?_ rfl ?_; (focus (omega)))
              | (refine W_eql_f rfl rfl ?_ rfl ?_; (focus (omega)))
              | (refine W_eql rfl rfl rfl ?_)
            refine W_assign rfl rfl ?_
            refine W_nil ?_
            refine N_then_k ?_
            first
              | refine K_cond_d rfl (fun hc10 => ?_) (fun hc10 => ?_)
              | refine K_cond_n rfl (fun hc10 => ?_) (fun hc10 => ?_)
              | refine K_cond_nb rfl (fun hc10 => ?_) (fun hc10 => ?_)
              | refine K_cond_t rfl (fun hc10 => ?_) (fun hc10 => ?_)
            · try (exfalso; first | omega | (simp only [Bool.false_eq_true, reduceCtorEq] at hc10; done) | (refine absurd hc10 ?_; with_reducible assumption) | (refine absurd ?_ hc10; with_reducible assumption))
              all_goals (
               refine K_skip ?_
               refine N_mid (()) (sub_end ?_ ?_) ?_
               · repeat' (first | exact sub_lst_nil (sub_nil _) | refine sub_lst rfl ?_ | (refine sub_lst_eq rfl ?_ ?_; · first | rfl | (first | (refine congrArg Value.bool (decide_eq_true ?_).symm; omega) | (refine congrArg Value.bool (decide_eq_decide.2 ?_); omega)) | (simp; done) | (congr 1; omega)))
               · repeat' (first | exact sub_refl _ | exact sub_strip _ _ | refine sub_s_cons rfl ?_ | refine sub_s_lst rfl ?_ | refine sub_s_strip rfl ?_)
               · exact hp)
            · try (exfalso; first | omega | (simp only [Bool.false_eq_true, reduceCtorEq] at hc10; done) | (refine absurd hc10 ?_; with_reducible assumption) | (refine absurd ?_ hc10; with_reducible assumption))
              all_goals (
               refine K_seq ?_
               refine K_region ?_
               first
                 | (refine W_eql_t rfl rfl ?_ rfl ?_; (focus (omega)))
                 | (refine W_eql_f rfl rfl ?_ rfl ?_; (focus (omega)))
                 | (refine W_eql rfl rfl rfl ?_)
               refine W_assign rfl rfl ?_
               refine W_nil ?_
               refine N_then_k ?_
               first
                 | refine K_cond_d rfl (fun hc11 => ?_) (fun hc11 => ?_)
                 | refine K_cond_n rfl (fun hc11 => ?_) (fun hc11 => ?_)
                 | refine K_cond_nb rfl (fun hc11 => ?_) (fun hc11 => ?_)
                 | refine K_cond_t rfl (fun hc11 => ?_) (fun hc11 => ?_)
               · try (exfalso; first | omega | (simp only [Bool.false_eq_true, reduceCtorEq] at hc11; done) | (refine absurd hc11 ?_; with_reducible assumption) | (refine absurd ?_ hc11; with_reducible assumption))
                 all_goals (
                  refine K_skip ?_
                  refine N_mid (()) (sub_end ?_ ?_) ?_
                  · repeat' (first | exact sub_lst_nil (sub_nil _) | refine sub_lst rfl ?_ | (refine sub_lst_eq rfl ?_ ?_; · first | rfl | (first | (refine congrArg Value.bool (decide_eq_true ?_).symm; omega) | (refine congrArg Value.bool (decide_eq_decide.2 ?_); omega)) | (simp; done) | (congr 1; omega)))
                  · repeat' (first | exact sub_refl _ | exact sub_strip _ _ | refine sub_s_cons rfl ?_ | refine sub_s_lst rfl ?_ | refine sub_s_strip rfl ?_)
                  · exact hp)
               · try (exfalso; first | omega | (simp only [Bool.false_eq_true, reduceCtorEq] at hc11; done) | (refine absurd hc11 ?_; with_reducible assumption) | (refine absurd ?_ hc11; with_reducible assumption))
                 all_goals (
                  refine K_seq ?_
                  refine K_region ?_
                  first
                    | (refine W_eql_t rfl rfl ?_ rfl ?_; (focus (omega)))
                    | (refine W_eql_f rfl rfl ?_ rfl ?_; (focus (omega)))
                    | (refine W_eql rfl rfl rfl ?_)
                  refine W_assign rfl rfl ?_
                  refine W_nil ?_
                  refine N_then_k ?_
                  first
                    | refine K_cond_d rfl (fun hc12 => ?_) (fun hc12 => ?_)
                    | refine K_cond_n rfl (fun hc12 => ?_) (fun hc12 => ?_)
                    | refine K_cond_nb rfl (fun hc12 => ?_) (fun hc12 => ?_)
                    | refine K_cond_t rfl (fun hc12 => ?_) (fun hc12 => ?_)
                  · try (exfalso; first | omega | (simp only [Bool.false_eq_true, reduceCtorEq] at hc12; done) | (refine absurd hc12 ?_; with_reducible assumption) | (refine absurd ?_ hc12; with_reducible assumption))
                    all_goals (
                     refine K_skip ?_
                     refine N_mid (()) (sub_end ?_ ?_) ?_
                     · repeat' (first | exact sub_lst_nil (sub_nil _) | refine sub_lst rfl ?_ | (refine sub_lst_eq rfl ?_ ?_; · first | rfl | (first | (refine congrArg Value.bool (decide_eq_true ?_).symm; omega) | (refine congrArg Value.bool (decide_eq_decide.2 ?_); omega)) | (simp; done) | (congr 1; omega)))
                     · repeat' (first | exact sub_refl _ | exact sub_strip _ _ | refine sub_s_cons rfl ?_ | refine sub_s_lst rfl ?_ | refine sub_s_strip rfl ?_)
                     · exact hp)
                  · try (exfalso; first | omega | (simp only [Bool.false_eq_true, reduceCtorEq] at hc12; done) | (refine absurd hc12 ?_; with_reducible assumption) | (refine absurd ?_ hc12; with_reducible assumption))
                    all_goals (
                     refine K_seq ?_
                     refine K_region ?_
                     first
                       | (refine W_eql_t rfl rfl ?_ rfl ?_; (focus (omega)))
                       | (refine W_eql_f rfl rfl ?_ rfl ?_; (focus (omega)))
                       | (refine W_eql rfl rfl rfl ?_)
                     refine W_assign rfl rfl ?_
                     refine W_nil ?_
                     refine N_then_k ?_
                     first
                       | refine K_cond_d rfl (fun hc13 => ?_) (fun hc13 => ?_)
                       | refine K_cond_n rfl (fun hc13 => ?_) (fun hc13 => ?_)
                       | refine K_cond_nb rfl (fun hc13 => ?_) (fun hc13 => ?_)
                       | refine K_cond_t rfl (fun hc13 => ?_) (fun hc13 => ?_)
                     · try (exfalso; first | omega | (simp only [Bool.false_eq_true, reduceCtorEq] at hc13; done) | (refine absurd hc13 ?_; with_reducible assumption) | (refine absurd ?_ hc13; with_reducible assumption))
                       all_goals (
                        refine K_skip ?_
                        refine N_mid (()) (sub_end ?_ ?_) ?_
                        · repeat' (first | exact sub_lst_nil (sub_nil _) | refine sub_lst rfl ?_ | (refine sub_lst_eq rfl ?_ ?_; · first | rfl | (first | (refine congrArg Value.bool (decide_eq_true ?_).symm; omega) | (refine congrArg Value.bool (decide_eq_decide.2 ?_); omega)) | (simp; done) | (congr 1; omega)))
                        · repeat' (first | exact sub_refl _ | exact sub_strip _ _ | refine sub_s_cons rfl ?_ | refine sub_s_lst rfl ?_ | refine sub_s_strip rfl ?_)
                        · exact hp)
                     · try (exfalso; first | omega | (simp only [Bool.false_eq_true, reduceCtorEq] at hc13; done) | (refine absurd hc13 ?_; with_reducible assumption) | (refine absurd ?_ hc13; with_reducible assumption))
                       all_goals (
                        refine K_seq ?_
                        refine K_region ?_
                        first
                          | (refine W_eql_t rfl rfl ?_ rfl ?_; (focus (omega)))
                          | (refine W_eql_f rfl rfl ?_ rfl ?_; (focus (omega)))
                          | (refine W_eql rfl rfl rfl ?_)
                        refine W_assign rfl rfl ?_
                        refine W_nil ?_
                        refine N_then_k ?_
                        first
                          | refine K_cond_d rfl (fun hc14 => ?_) (fun hc14 => ?_)
                          | refine K_cond_n rfl (fun hc14 => ?_) (fun hc14 => ?_)
                          | refine K_cond_nb rfl (fun hc14 => ?_) (fun hc14 => ?_)
                          | refine K_cond_t rfl (fun hc14 => ?_) (fun hc14 => ?_)
                        · try (exfalso; first | omega | (simp only [Bool.false_eq_true, reduceCtorEq] at hc14; done) | (refine absurd hc14 ?_; with_reducible assumption) | (refine absurd ?_ hc14; with_reducible assumption))
                          all_goals (
                           refine K_skip ?_
                           refine N_mid (()) (sub_end ?_ ?_) ?_
                           · repeat' (first | exact sub_lst_nil (sub_nil _) | refine sub_lst rfl ?_ | (refine sub_lst_eq rfl ?_ ?_; · first | rfl | (first | (refine congrArg Value.bool (decide_eq_true ?_).symm; omega) | (refine congrArg Value.bool (decide_eq_decide.2 ?_); omega)) | (simp; done) | (congr 1; omega)))
                           · repeat' (first | exact sub_refl _ | exact sub_strip _ _ | refine sub_s_cons rfl ?_ | refine sub_s_lst rfl ?_ | refine sub_s_strip rfl ?_)
                           · exact hp)
                        · try (exfalso; first | omega | (simp only [Bool.false_eq_true, reduceCtorEq] at hc14; done) | (refine absurd hc14 ?_; with_reducible assumption) | (refine absurd ?_ hc14; with_reducible assumption))
                          all_goals (
                           refine K_region ?_
                           first
                             | (refine W_eql_t rfl rfl ?_ rfl ?_; (focus (omega)))
                             | (refine W_eql_f rfl rfl ?_ rfl ?_; (focus (omega)))
                             | (refine W_eql rfl rfl rfl ?_)
                           refine W_assign rfl rfl ?_
                           refine W_nil ?_
                           refine N_mid (()) (sub_end ?_ ?_) ?_
                           · repeat' (first | exact sub_lst_nil (sub_nil _) | refine sub_lst rfl ?_ | (refine sub_lst_eq rfl ?_ ?_; · first | rfl | (first | (refine congrArg Value.bool (decide_eq_true ?_).symm; omega) | (refine congrArg Value.bool (decide_eq_decide.2 ?_); omega)) | (simp; done) | (congr 1; omega)))
                           · repeat' (first | exact sub_refl _ | exact sub_strip _ _ | refine sub_s_cons rfl ?_ | refine sub_s_lst rfl ?_ | refine sub_s_strip rfl ?_)
                           · exact hp))))))
       · intro _ w hJ
         have hp := hJ
         first
           | refine K_cond_d rfl (fun hc15 => ?_) (fun hc15 => ?_)
           | refine K_cond_n rfl (fun hc15 => ?_) (fun hc15 => ?_)
           | refine K_cond_nb rfl (fun hc15 => ?_) (fun hc15 => ?_)
           | refine K_cond_t rfl (fun hc15 => ?_) (fun hc15 => ?_)
         · try (exfalso; first | omega | (simp only [Bool.false_eq_true, reduceCtorEq] at hc15; done) | (refine absurd hc15 ?_; with_reducible assumption) | (refine absurd ?_ hc15; with_reducible assumption))
           all_goals (
            refine K_exit ?_
            refine N_then_exit ?_
            refine N_block_other rfl ?_
            refine N_block_exit ?_
            refine N_then_k ?_
            refine K_seq ?_
            refine K_seq ?_
            refine K_region ?_
            refine W_assign rfl rfl ?_
            refine W_nil ?_
            refine N_then_k ?_
            refine K_ret ?_
            refine N_then_ret ?_
            refine N_block_ret ?_
            refine N_then_ret ?_
            refine N_done1 (.inr rfl) rfl rfl ?_
            refine ⟨_, rfl, congrArg Value.bool ?_, hp.nil⟩
            first
              | rfl
              | (refine Bool.eq_iff_iff.2 ?_; simp only [Bool.not_eq_true', decide_eq_true_eq, decide_eq_false_iff_not]; omega)
              | (refine (decide_eq_true ?_).symm; omega)
              | (refine (decide_eq_false ?_).symm; omega)
              | (refine decide_eq_decide.2 ?_; omega))
         · try (exfalso; first | omega | (simp only [Bool.false_eq_true, reduceCtorEq] at hc15; done) | (refine absurd hc15 ?_; with_reducible assumption) | (refine absurd ?_ hc15; with_reducible assumption))
           all_goals (
            refine K_skip ?_
            refine N_then_k ?_
            refine K_exit ?_
            refine N_block_other rfl ?_
            refine N_block_other rfl ?_
            refine N_then_exit ?_
            refine N_block_exit ?_
            refine N_then_k ?_
            refine K_seq ?_
            refine K_region ?_
            refine W_move rfl rfl ?_
            refine W_pcall hp rfl (alnum_spec c) rfl ?_
            clear hp; intro w hp
            refine W_assign rfl rfl ?_
            refine W_nil ?_
            refine N_then_k ?_
            refine K_ret ?_
            refine N_done1 (.inr rfl) rfl rfl ?_
            refine ⟨_, rfl, congrArg Value.bool ?_, hp.nil⟩
            first
              | rfl
              | (refine Bool.eq_iff_iff.2 ?_; simp only [Bool.not_eq_true', decide_eq_true_eq, decide_eq_false_iff_not]; omega)
              | (refine (decide_eq_true ?_).symm; omega)
              | (refine (decide_eq_false ?_).symm; omega)
              | (refine decide_eq_decide.2 ?_; omega)))

theorem all_spec (s : List UInt8) (fv : Value) (p : UInt8 → Bool) (hf : ∀ c : UInt8, PureV Tryd.prog fv [.int .u8 (c.toNat : Int)] (.bool (p c))) (hl : s.length ≤ 9000000000000000000) : PureF Tryd.prog 96 [.string ⟨s.toArray⟩, fv] (.bool (s.all p)) := by
  refine PureF.intro go96 Tryd.func96 rfl rfl fun w0 hp => ?_
  refine K_seq ?_
  refine K_region ?_
  refine W_assign rfl rfl ?_
  refine W_nil ?_
  refine N_then_k ?_
  refine K_seq ?_
  refine K_seq ?_
  refine K_region ?_
  refine W_move rfl rfl ?_
  refine W_len_s Tryd.underlying9 rfl rfl ?_
  refine W_move rfl rfl ?_
  refine W_nil ?_
  refine N_then_k ?_
  refine K_block ?_
  refine K_loop (σ := Nat) [4, 5, 8, 9, 10, 11, 12, 13, 14, 15, 16, 17]
      (fun k => [(8, .int .i64 k)])
      (fun k w => Hp w0 [] [] w ∧ k ≤ s.length ∧ (s.take k).all p = true)
      (fun k => s.length - k) (0) ?_ ?_ ?_
  · repeat' (first | exact sub_lst_nil (sub_nil _) | refine sub_lst rfl ?_ | (refine sub_lst_eq rfl ?_ ?_; · first | rfl | (simp; done) | (congr 1; omega)))
  · exact ⟨hp, Nat.zero_le _, by simp⟩
  · intro k w hJ
    clear hp
    obtain ⟨hp, hle, ha⟩ := hJ
    rcases Nat.lt_or_ge k s.length with hlt | hge
    all_goals (
     refine K_seq ?_
     refine K_region ?_
     first
       | (refine W_lss_t rfl rfl ?_ rfl ?_; (focus (omega)))
       | (refine W_lss_f rfl rfl ?_ rfl ?_; (focus (omega)))
       | (refine W_lss rfl rfl rfl ?_)
     refine W_nil ?_
     refine N_then_k ?_
     refine K_seq ?_
     first
       | refine K_cond_d rfl (fun hc1 => ?_) (fun hc1 => ?_)
       | refine K_cond_n rfl (fun hc1 => ?_) (fun hc1 => ?_)
       | refine K_cond_nb rfl (fun hc1 => ?_) (fun hc1 => ?_)
       | refine K_cond_t rfl (fun hc1 => ?_) (fun hc1 => ?_)
     · try (exfalso; first | omega | (simp only [Bool.false_eq_true, reduceCtorEq] at hc1; done) | (refine absurd hc1 ?_; with_reducible assumption) | (refine absurd ?_ hc1; with_reducible assumption))
       all_goals (
        refine K_skip ?_
        refine N_then_k ?_
        refine K_seq ?_
        refine K_block ?_
        refine K_seq ?_
        refine K_region ?_
        refine W_move rfl rfl ?_
        refine W_assign rfl rfl ?_
        refine W_nil ?_
        refine N_then_k ?_
        refine K_seq ?_
        refine K_region ?_
        obtain ⟨c, hc⟩ : ∃ c, s[k]? = some c := ⟨_, List.getElem?_eq_getElem hlt⟩
        refine W_move rfl rfl ?_
        refine W_move rfl rfl ?_
        refine W_move rfl rfl ?_
        refine W_index_s Tryd.underlying9 rfl rfl ?_ (by first | with_reducible assumption | assumption | exact rfl | exact idx_getD (by first | omega | (simp; omega))) rfl ?_
        (focus (omega))
        refine W_vcall hp rfl rfl (hf c) rfl ?_
        clear hp; intro w hp
        first
          | (refine W_not_t rfl rfl ?_)
          | (refine W_not_f rfl rfl ?_)
          | (refine W_not rfl rfl ?_)
        refine W_nil ?_
        refine N_then_k ?_
        first
          | refine K_cond_d rfl (fun hc2 => ?_) (fun hc2 => ?_)
          | refine K_cond_n rfl (fun hc2 => ?_) (fun hc2 => ?_)
          | refine K_cond_nb rfl (fun hc2 => ?_) (fun hc2 => ?_)
          | refine K_cond_t rfl (fun hc2 => ?_) (fun hc2 => ?_)
        · try (exfalso; first | omega | (simp only [Bool.false_eq_true, reduceCtorEq] at hc2; done) | (refine absurd hc2 ?_; with_reducible assumption) | (refine absurd ?_ hc2; with_reducible assumption))
          all_goals (
           refine K_seq ?_
           refine K_region ?_
           refine W_assign rfl rfl ?_
           refine W_nil ?_
           refine N_then_k ?_
           refine K_ret ?_
           refine N_block_ret ?_
           refine N_then_ret ?_
           refine N_then_ret ?_
           refine N_block_ret ?_
           refine N_then_ret ?_
           refine N_done1 (.inr rfl) rfl rfl ?_
           refine ⟨_, rfl, congrArg Value.bool ?_, hp.nil⟩
           first
             | (rw [all_not ‹s[k]? = some c› (by assumption)])
             | (rw [List.take_of_length_le ‹s.length ≤ k›] at ha; rw [ha]))
        · try (exfalso; first | omega | (simp only [Bool.false_eq_true, reduceCtorEq] at hc2; done) | (refine absurd hc2 ?_; with_reducible assumption) | (refine absurd ?_ hc2; with_reducible assumption))
          all_goals (
           refine K_skip ?_
           refine N_block_normal ?_
           refine N_then_k ?_
           refine K_region ?_
           first
             | (refine W_add rfl rfl (wr_i64 ?_) rfl ?_; (focus (omega)))
             | (refine W_add rfl rfl rfl rfl ?_)
           refine W_move rfl rfl ?_
           refine W_nil ?_
           refine N_again (k + 1) (sub_end ?_ ?_) ?_ ?_
           · repeat' (first | exact sub_lst_nil (sub_nil _) | refine sub_lst rfl ?_ | (refine sub_lst_eq rfl ?_ ?_; · first | rfl | (simp; done) | (congr 1; omega)))
           · repeat' (first | exact sub_refl _ | exact sub_strip _ _ | refine sub_s_cons rfl ?_ | refine sub_s_lst rfl ?_ | refine sub_s_strip rfl ?_)
           · refine ⟨hp, hlt, ?_⟩
             rw [all_take hc, ha]; simpa using ‹p c = true›
           · omega))
     · try (exfalso; first | omega | (simp only [Bool.false_eq_true, reduceCtorEq] at hc1; done) | (refine absurd hc1 ?_; with_reducible assumption) | (refine absurd ?_ hc1; with_reducible assumption))
       all_goals (
        refine K_exit ?_
        refine N_then_exit ?_
        refine N_then_exit ?_
        refine N_block_exit ?_
        refine N_then_k ?_
        refine K_seq ?_
        refine K_region ?_
        refine W_assign rfl rfl ?_
        refine W_nil ?_
        refine N_then_k ?_
        refine K_ret ?_
        refine N_done1 (.inr rfl) rfl rfl ?_
        refine ⟨_, rfl, congrArg Value.bool ?_, hp.nil⟩
        first
          | (rw [all_not ‹s[k]? = some c› (by assumption)])
          | (rw [List.take_of_length_le ‹s.length ≤ k›] at ha; rw [ha])))

theorem all_token (s : List UInt8) (hl : s.length ≤ 9000000000000000000) : PureF Tryd.prog 96 [.string ⟨s.toArray⟩, .func (.func 100) #[] #[]] (.bool (s.all tokenB)) :=
  all_spec s _ tokenB (fun c => (token_spec c).toV) hl

theorem all_letter (s : List UInt8) (hl : s.length ≤ 9000000000000000000) : PureF Tryd.prog 96 [.string ⟨s.toArray⟩, .func (.func 106) #[] #[]] (.bool (s.all letterB)) :=
  all_spec s _ letterB (fun c => (letter_spec c).toV) hl

theorem all_digit (s : List UInt8) (hl : s.length ≤ 9000000000000000000) : PureF Tryd.prog 96 [.string ⟨s.toArray⟩, .func (.func 102) #[] #[]] (.bool (s.all digitB)) :=
  all_spec s _ digitB (fun c => (digit_spec c).toV) hl

theorem isToken_spec (s : List UInt8) (hl : s.length ≤ 9000000000000000000) : PureF Tryd.prog 94 [.string ⟨s.toArray⟩] (.bool (isToken s)) := by
  refine PureF.intro go94 Tryd.func94 rfl rfl fun w0 hp => ?_
  refine K_seq ?_
  refine K_region ?_
  refine W_assign rfl rfl ?_
  refine W_nil ?_
  refine N_then_k ?_
  refine K_seq ?_
  refine K_region ?_
  refine W_move rfl rfl ?_
  first
    | (refine W_sneq_f rfl rfl ?_ rfl ?_; (focus (first | rfl | assumption)))
    | (refine W_sneq_t rfl rfl ?_ rfl ?_; (focus (first | assumption | decide | exact List.cons_ne_nil _ _)))
    | (refine W_sneq rfl rfl rfl ?_)
  refine W_move rfl rfl ?_
  first
    | refine W_guard_lit_t rfl ?_
    | refine W_guard_lit_f rfl ?_
    | refine W_guard_lit_u rfl ?_
    | refine W_guard_split_d rfl rfl rfl (fun hg1 => ?_) (fun hg1 => ?_)
    | refine W_guard_split_n rfl rfl rfl (fun hg1 => ?_) (fun hg1 => ?_)
    | refine W_guard_split_nb rfl rfl rfl (fun hg1 => ?_) (fun hg1 => ?_)
    | refine W_guard_split rfl rfl rfl (fun hg1 => ?_) (fun hg1 => ?_)
  all_goals try (exfalso; first | omega | (simp only [Bool.false_eq_true, reduceCtorEq] at hg1; done) | (refine absurd hg1 ?_; with_reducible assumption) | (refine absurd ?_ hg1; with_reducible assumption))
  all_goals (
   first
     | (iterate 2 refine W_guard_no rfl rfl rfl ?_)
     | (iterate 2 refine W_guard_un rfl rfl ?_)
     | (refine W_guard_yes rfl ?_
        refine W_move rfl rfl ?_
        refine W_guard_yes rfl ?_
        refine W_pcall hp rfl (all_token s hl) rfl ?_
        clear hp; intro w hp)
   first
     | (refine W_pick_t rfl rfl rfl ?_)
     | (refine W_pick_f rfl rfl rfl ?_)
     | (refine W_pick_b rfl rfl rfl rfl ?_)
   refine W_assign rfl rfl ?_
   refine W_nil ?_
   refine N_then_k ?_
   refine K_ret ?_
   refine N_done1 (.inr rfl) rfl rfl ?_
   refine ⟨_, rfl, congrArg Value.bool ?_, hp.nil⟩
   cases s <;> simp_all [isToken])

theorem u8_all {p : UInt8 → Prop} (h : ∀ n : Fin 256, p (UInt8.ofNat n.val)) (c : UInt8) : p c := by
  have := h ⟨c.toNat, c.toNat_lt⟩
  simpa using this

theorem in_spec (c : UInt8) (s : List UInt8) (hl : s.length ≤ 9000000000000000000) : PureF Tryd.prog 30 [.int .u8 (c.toNat : Int), .string ⟨s.toArray⟩] (.bool (decide (c ∈ s))) := by
  refine PureF.intro go30 Tryd.func30 rfl rfl fun w0 hp => ?_
  refine K_seq ?_
  refine K_region ?_
  refine W_assign rfl rfl ?_
  refine W_nil ?_
  refine N_then_k ?_
  refine K_seq ?_
  refine K_seq ?_
  refine K_region ?_
  refine W_assign rfl rfl ?_
  refine W_nil ?_
  refine N_then_k ?_
  refine K_block ?_
  refine K_loop (σ := Nat) [4, 5, 6, 7, 8, 9, 10, 11, 12, 13, 14, 15, 16]
      (fun k => [(5, .int .i64 k)])
      (fun k w => Hp w0 [] [] w ∧ k ≤ s.length ∧ c ∉ s.take k)
      (fun k => s.length - k) (0) ?_ ?_ ?_
  · repeat' (first | exact sub_lst_nil (sub_nil _) | refine sub_lst rfl ?_ | (refine sub_lst_eq rfl ?_ ?_; · first | rfl | (simp; done) | (congr 1; omega)))
  · exact ⟨hp, Nat.zero_le _, by simp⟩
  · intro k w hJ
    clear hp
    obtain ⟨hp, hle, ha⟩ := hJ
    rcases Nat.lt_or_ge k (s.length) with hlt | hge
    all_goals (
     refine K_seq ?_
     refine K_seq ?_
     refine K_region ?_
     refine W_move rfl rfl ?_
     refine W_move rfl rfl ?_
     refine W_len_s Tryd.underlying9 rfl rfl ?_
     first
       | (refine W_lss_t rfl rfl ?_ rfl ?_; (focus (omega)))
       | (refine W_lss_f rfl rfl ?_ rfl ?_; (focus (omega)))
       | (refine W_lss rfl rfl rfl ?_)
     refine W_nil ?_
     refine N_then_k ?_
     first
       | refine K_cond_d rfl (fun hc1 => ?_) (fun hc1 => ?_)
       | refine K_cond_n rfl (fun hc1 => ?_) (fun hc1 => ?_)
       | refine K_cond_nb rfl (fun hc1 => ?_) (fun hc1 => ?_)
       | refine K_cond_t rfl (fun hc1 => ?_) (fun hc1 => ?_)
     · try (exfalso; first | omega | (simp only [Bool.false_eq_true, reduceCtorEq] at hc1; done) | (refine absurd hc1 ?_; with_reducible assumption) | (refine absurd ?_ hc1; with_reducible assumption))
       all_goals (
        refine K_skip ?_
        refine N_then_k ?_
        refine K_seq ?_
        refine K_block ?_
        refine K_seq ?_
        refine K_region ?_
        obtain ⟨x, hc⟩ : ∃ c, s[k]? = some c := ⟨_, List.getElem?_eq_getElem hlt⟩
        refine W_move rfl rfl ?_
        refine W_move rfl rfl ?_
        refine W_index_s Tryd.underlying9 rfl rfl ?_ (by first | with_reducible assumption | assumption | exact rfl | exact idx_getD (by first | omega | (simp; omega))) rfl ?_
        (focus (omega))
        refine W_move rfl rfl ?_
        first
          | (refine W_eql_t rfl rfl ?_ rfl ?_; (focus (omega)))
          | (refine W_eql_f rfl rfl ?_ rfl ?_; (focus (omega)))
          | (refine W_eql rfl rfl rfl ?_)
        refine W_nil ?_
        refine N_then_k ?_
        first
          | refine K_cond_d rfl (fun hc2 => ?_) (fun hc2 => ?_)
          | refine K_cond_n rfl (fun hc2 => ?_) (fun hc2 => ?_)
          | refine K_cond_nb rfl (fun hc2 => ?_) (fun hc2 => ?_)
          | refine K_cond_t rfl (fun hc2 => ?_) (fun hc2 => ?_)
        · try (exfalso; first | omega | (simp only [Bool.false_eq_true, reduceCtorEq] at hc2; done) | (refine absurd hc2 ?_; with_reducible assumption) | (refine absurd ?_ hc2; with_reducible assumption))
          all_goals (
           refine K_seq ?_
           refine K_region ?_
           refine W_assign rfl rfl ?_
           refine W_nil ?_
           refine N_then_k ?_
           refine K_ret ?_
           refine N_block_ret ?_
           refine N_then_ret ?_
           refine N_then_ret ?_
           refine N_block_ret ?_
           refine N_then_ret ?_
           refine N_done1 (.inr rfl) rfl rfl ?_
           refine ⟨_, rfl, congrArg Value.bool ?_, hp.nil⟩
           first
             | (rw [decide_eq_true]; have e : x = c := UInt8.toNat_inj.1 (by omega); subst e; exact List.mem_of_getElem? hc)
             | (rw [List.take_of_length_le hge] at ha; rw [decide_eq_false ha]))
        · try (exfalso; first | omega | (simp only [Bool.false_eq_true, reduceCtorEq] at hc2; done) | (refine absurd hc2 ?_; with_reducible assumption) | (refine absurd ?_ hc2; with_reducible assumption))
          all_goals (
           refine K_skip ?_
           refine N_block_normal ?_
           refine N_then_k ?_
           refine K_region ?_
           refine W_move rfl rfl ?_
           first
             | (refine W_add rfl rfl (wr_i64 ?_) rfl ?_; (focus (omega)))
             | (refine W_add rfl rfl rfl rfl ?_)
           refine W_assign rfl rfl ?_
           refine W_nil ?_
           refine N_again (k + 1) (sub_end ?_ ?_) ?_ ?_
           · repeat' (first | exact sub_lst_nil (sub_nil _) | refine sub_lst rfl ?_ | (refine sub_lst_eq rfl ?_ ?_; · first | rfl | (simp; done) | (congr 1; omega)))
           · repeat' (first | exact sub_refl _ | exact sub_strip _ _ | refine sub_s_cons rfl ?_ | refine sub_s_lst rfl ?_ | refine sub_s_strip rfl ?_)
           · refine ⟨hp, hlt, ?_⟩
             rw [List.take_add_one, hc]
             simp only [Option.toList_some, List.mem_append, List.mem_singleton, not_or]
             refine ⟨ha, fun e => ?_⟩
             subst e; omega
           · omega))
     · try (exfalso; first | omega | (simp only [Bool.false_eq_true, reduceCtorEq] at hc1; done) | (refine absurd hc1 ?_; with_reducible assumption) | (refine absurd ?_ hc1; with_reducible assumption))
       all_goals (
        refine K_exit ?_
        refine N_then_exit ?_
        refine N_then_exit ?_
        refine N_block_exit ?_
        refine N_then_k ?_
        refine K_seq ?_
        refine K_region ?_
        refine W_assign rfl rfl ?_
        refine W_nil ?_
        refine N_then_k ?_
        refine K_ret ?_
        refine N_done1 (.inr rfl) rfl rfl ?_
        refine ⟨_, rfl, congrArg Value.bool ?_, hp.nil⟩
        first
          | (rw [decide_eq_true]; have e : x = c := UInt8.toNat_inj.1 (by omega); subst e; exact List.mem_of_getElem? hc)
          | (rw [List.take_of_length_le hge] at ha; rw [decide_eq_false ha])))

theorem letters_spec  : PureF Tryd.prog 31 [] (.string ⟨[65, 66, 67, 68, 69, 70, 71, 72, 73, 74, 75, 76, 77, 78, 79, 80, 81, 82, 83, 84, 85, 86, 87, 88, 89, 90, 97, 98, 99, 100, 101, 102, 103, 104, 105, 106, 107, 108, 109, 110, 111, 112, 113, 114, 115, 116, 117, 118, 119, 120, 121, 122].toArray⟩) := by
  refine PureF.intro go31 Tryd.func31 rfl rfl fun w0 hp => ?_
  refine K_seq ?_
  refine K_region ?_
  refine W_assign rfl rfl ?_
  refine W_nil ?_
  refine N_then_k ?_
  refine K_seq ?_
  refine K_region ?_
  refine W_assign rfl rfl ?_
  refine W_nil ?_
  refine N_then_k ?_
  refine K_ret ?_
  refine N_done1 (.inr rfl) rfl rfl ?_
  exact ⟨_, rfl, rfl, hp.nil⟩

theorem in_letters (c : UInt8) : Value.bool (decide (c ∈ ([65, 66, 67, 68, 69, 70, 71, 72, 73, 74, 75, 76, 77, 78, 79, 80, 81, 82, 83, 84, 85, 86, 87, 88, 89, 90, 97, 98, 99, 100, 101, 102, 103, 104, 105, 106, 107, 108, 109, 110, 111, 112, 113, 114, 115, 116, 117, 118, 119, 120, 121, 122] : List UInt8))) = .bool (decide (LetterP c.toNat)) := congrArg Value.bool (u8_all (p := fun c => decide (c ∈ ([65, 66, 67, 68, 69, 70, 71, 72, 73, 74, 75, 76, 77, 78, 79, 80, 81, 82, 83, 84, 85, 86, 87, 88, 89, 90, 97, 98, 99, 100, 101, 102, 103, 104, 105, 106, 107, 108, 109, 110, 111, 112, 113, 114, 115, 116, 117, 118, 119, 120, 121, 122] : List UInt8)) = decide (LetterP c.toNat)) (by decide +kernel) c)

theorem in_digits (c : UInt8) : Value.bool (decide (c ∈ ([48, 49, 50, 51, 52, 53, 54, 55, 56, 57] : List UInt8))) = .bool (decide (DigitP c.toNat)) := congrArg Value.bool (u8_all (p := fun c => decide (c ∈ ([48, 49, 50, 51, 52, 53, 54, 55, 56, 57] : List UInt8)) = decide (DigitP c.toNat)) (by decide +kernel) c)

theorem in_class2 : ∀ c : UInt8, (LetterP c.toNat ∨ DigitP c.toNat ∨ c ∈ ([33, 35, 36, 37, 38, 39, 42, 43, 45, 46, 94, 95, 96, 124, 126] : List UInt8)) ↔ TokenP c.toNat := u8_all (by decide +kernel)

theorem in_class3 : ∀ c : UInt8, (LetterP c.toNat ∨ DigitP c.toNat ∨ c ∈ ([45, 46, 95, 126] : List UInt8)) ↔ UnresP c.toNat := u8_all (by decide +kernel)

theorem in_class4 : ∀ c : UInt8, (LetterP c.toNat ∨ DigitP c.toNat ∨ c ∈ ([45, 46, 95, 126, 33, 36, 38, 39, 40, 41, 42, 43, 44, 59, 61, 58, 64] : List UInt8)) ↔ PathP c.toNat := u8_all (by decide +kernel)

theorem class1_spec (c : UInt8) : PureF Tryd.prog 21 [.int .u8 (c.toNat : Int), .int .i64 1] (.bool (decide (DigitP c.toNat))) := by
  have hu := c.toNat_lt
  refine PureF.intro go21 Tryd.func21 rfl rfl fun w0 hp => ?_
  refine K_seq ?_
  refine K_region ?_
  refine W_assign rfl rfl ?_
  refine W_nil ?_
  refine N_then_k ?_
  refine K_seq ?_
  refine K_region ?_
  refine W_move rfl rfl ?_
  refine W_pcall hp rfl (letters_spec) rfl ?_
  clear hp; intro w hp
  refine W_pcall hp rfl ((in_spec c [65, 66, 67, 68, 69, 70, 71, 72, 73, 74, 75, 76, 77, 78, 79, 80, 81, 82, 83, 84, 85, 86, 87, 88, 89, 90, 97, 98, 99, 100, 101, 102, 103, 104, 105, 106, 107, 108, 109, 110, 111, 112, 113, 114, 115, 116, 117, 118, 119, 120, 121, 122] (by decide)).eq (in_letters c)) rfl ?_
  clear hp; intro w hp
  refine W_assign rfl rfl ?_
  refine W_nil ?_
  refine N_then_k ?_
  refine K_seq ?_
  refine K_region ?_
  refine W_move rfl rfl ?_
  refine W_pcall hp rfl ((in_spec c [48, 49, 50, 51, 52, 53, 54, 55, 56, 57] (by decide)).eq (in_digits c)) rfl ?_
  clear hp; intro w hp
  refine W_assign rfl rfl ?_
  refine W_nil ?_
  refine N_then_k ?_
  refine K_seq ?_
  refine K_seq ?_
  refine K_region ?_
  refine W_move rfl rfl ?_
  refine W_nil ?_
  refine N_then_k ?_
  refine K_block ?_
  refine K_seq ?_
  refine K_region ?_
  first
    | (refine W_eql_t rfl rfl ?_ rfl ?_; (focus (omega)))
    | (refine W_eql_f rfl rfl ?_ rfl ?_; (focus (omega)))
    | (refine W_eql rfl rfl rfl ?_)
  refine W_assign rfl rfl ?_
  refine W_nil ?_
  refine N_then_k ?_
  first
    | refine K_cond_d rfl (fun hc1 => ?_) (fun hc1 => ?_)
    | refine K_cond_n rfl (fun hc1 => ?_) (fun hc1 => ?_)
    | refine K_cond_nb rfl (fun hc1 => ?_) (fun hc1 => ?_)
    | refine K_cond_t rfl (fun hc1 => ?_) (fun hc1 => ?_)
  · try (exfalso; first | omega | (simp only [Bool.false_eq_true, reduceCtorEq] at hc1; done) | (refine absurd hc1 ?_; with_reducible assumption) | (refine absurd ?_ hc1; with_reducible assumption))
    all_goals (
     refine K_seq ?_
     refine K_region ?_
     refine W_move rfl rfl ?_
     refine W_assign rfl rfl ?_
     refine W_nil ?_
     refine N_then_k ?_
     refine K_ret ?_
     refine N_block_ret ?_
     refine N_then_ret ?_
     refine N_done1 (.inr rfl) rfl rfl ?_
     refine ⟨_, rfl, congrArg Value.bool ?_, hp.nil⟩
     first
       | rfl
       | (refine Bool.eq_iff_iff.2 ?_; simp only [Bool.not_eq_true', decide_eq_true_eq, decide_eq_false_iff_not]; omega)
       | (refine (decide_eq_true ?_).symm; first | omega | (rw [← hcl]; first | exact Or.inl (by assumption) | exact Or.inr (Or.inl (by assumption)) | (constructor <;> intro h <;> first | exact Or.inr (Or.inr h) | (rcases h with h | h | h <;> first | exact h | contradiction))))
       | (refine (decide_eq_false ?_).symm; first | omega | (rw [← hcl]; first | exact Or.inl (by assumption) | exact Or.inr (Or.inl (by assumption)) | (constructor <;> intro h <;> first | exact Or.inr (Or.inr h) | (rcases h with h | h | h <;> first | exact h | contradiction))))
       | (refine decide_eq_decide.2 ?_; first | omega | (rw [← hcl]; first | exact Or.inl (by assumption) | exact Or.inr (Or.inl (by assumption)) | (constructor <;> intro h <;> first | exact Or.inr (Or.inr h) | (rcases h with h | h | h <;> first | exact h | contradiction)))))
  · try (exfalso; first | omega | (simp only [Bool.false_eq_true, reduceCtorEq] at hc1; done) | (refine absurd hc1 ?_; with_reducible assumption) | (refine absurd ?_ hc1; with_reducible assumption))
    all_goals (
     refine K_seq ?_
     refine K_region ?_
     first
       | (refine W_eql_t rfl rfl ?_ rfl ?_; (focus (omega)))
       | (refine W_eql_f rfl rfl ?_ rfl ?_; (focus (omega)))
       | (refine W_eql rfl rfl rfl ?_)
     refine W_assign rfl rfl ?_
     refine W_nil ?_
     refine N_then_k ?_
     first
       | refine K_cond_d rfl (fun hc2 => ?_) (fun hc2 => ?_)
       | refine K_cond_n rfl (fun hc2 => ?_) (fun hc2 => ?_)
       | refine K_cond_nb rfl (fun hc2 => ?_) (fun hc2 => ?_)
       | refine K_cond_t rfl (fun hc2 => ?_) (fun hc2 => ?_)
     · try (exfalso; first | omega | (simp only [Bool.false_eq_true, reduceCtorEq] at hc2; done) | (refine absurd hc2 ?_; with_reducible assumption) | (refine absurd ?_ hc2; with_reducible assumption))
       all_goals (
        refine K_seq ?_
        refine K_region ?_
        refine W_move rfl rfl ?_
        refine W_assign rfl rfl ?_
        refine W_nil ?_
        refine N_then_k ?_
        refine K_ret ?_
        refine N_block_ret ?_
        refine N_then_ret ?_
        refine N_done1 (.inr rfl) rfl rfl ?_
        refine ⟨_, rfl, congrArg Value.bool ?_, hp.nil⟩
        first
          | rfl
          | (refine Bool.eq_iff_iff.2 ?_; simp only [Bool.not_eq_true', decide_eq_true_eq, decide_eq_false_iff_not]; omega)
          | (refine (decide_eq_true ?_).symm; first | omega | (rw [← hcl]; first | exact Or.inl (by assumption) | exact Or.inr (Or.inl (by assumption)) | (constructor <;> intro h <;> first | exact Or.inr (Or.inr h) | (rcases h with h | h | h <;> first | exact h | contradiction))))
          | (refine (decide_eq_false ?_).symm; first | omega | (rw [← hcl]; first | exact Or.inl (by assumption) | exact Or.inr (Or.inl (by assumption)) | (constructor <;> intro h <;> first | exact Or.inr (Or.inr h) | (rcases h with h | h | h <;> first | exact h | contradiction))))
          | (refine decide_eq_decide.2 ?_; first | omega | (rw [← hcl]; first | exact Or.inl (by assumption) | exact Or.inr (Or.inl (by assumption)) | (constructor <;> intro h <;> first | exact Or.inr (Or.inr h) | (rcases h with h | h | h <;> first | exact h | contradiction)))))
     · try (exfalso; first | omega | (simp only [Bool.false_eq_true, reduceCtorEq] at hc2; done) | (refine absurd hc2 ?_; with_reducible assumption) | (refine absurd ?_ hc2; with_reducible assumption))
       all_goals (
        refine K_seq ?_
        refine K_region ?_
        first
          | (refine W_eql_t rfl rfl ?_ rfl ?_; (focus (omega)))
          | (refine W_eql_f rfl rfl ?_ rfl ?_; (focus (omega)))
          | (refine W_eql rfl rfl rfl ?_)
        refine W_assign rfl rfl ?_
        refine W_nil ?_
        refine N_then_k ?_
        first
          | refine K_cond_d rfl (fun hc3 => ?_) (fun hc3 => ?_)
          | refine K_cond_n rfl (fun hc3 => ?_) (fun hc3 => ?_)
          | refine K_cond_nb rfl (fun hc3 => ?_) (fun hc3 => ?_)
          | refine K_cond_t rfl (fun hc3 => ?_) (fun hc3 => ?_)
        · try (exfalso; first | omega | (simp only [Bool.false_eq_true, reduceCtorEq] at hc3; done) | (refine absurd hc3 ?_; with_reducible assumption) | (refine absurd ?_ hc3; with_reducible assumption))
          all_goals (
           refine K_seq ?_
           refine K_region ?_
           refine W_move rfl rfl ?_
           refine W_move rfl rfl ?_
           first
             | refine W_guard_lit_t rfl ?_
             | refine W_guard_lit_f rfl ?_
             | refine W_guard_lit_u rfl ?_
             | refine W_guard_split_d rfl rfl rfl (fun hg4 => ?_) (fun hg4 => ?_)
             | refine W_guard_split_n rfl rfl rfl (fun hg4 => ?_) (fun hg4 => ?_)
             | refine W_guard_split_nb rfl rfl rfl (fun hg4 => ?_) (fun hg4 => ?_)
             | refine W_guard_split rfl rfl rfl (fun hg4 => ?_) (fun hg4 => ?_)
           all_goals try (exfalso; first | omega | (simp only [Bool.false_eq_true, reduceCtorEq] at hg4; done) | (refine absurd hg4 ?_; with_reducible assumption) | (refine absurd ?_ hg4; with_reducible assumption))
           all_goals (
            first
              | (refine W_guard_no rfl rfl rfl ?_)
              | (refine W_guard_un rfl rfl ?_)
              | (refine W_guard_yes rfl ?_
                 refine W_move rfl rfl ?_)
            first
              | (refine W_pick_t rfl rfl rfl ?_)
              | (refine W_pick_f rfl rfl rfl ?_)
              | (refine W_pick_b rfl rfl rfl rfl ?_)
            refine W_move rfl rfl ?_
            first
              | refine W_guard_lit_t rfl ?_
              | refine W_guard_lit_f rfl ?_
              | refine W_guard_lit_u rfl ?_
              | refine W_guard_split_d rfl rfl rfl (fun hg5 => ?_) (fun hg5 => ?_)
              | refine W_guard_split_n rfl rfl rfl (fun hg5 => ?_) (fun hg5 => ?_)
              | refine W_guard_split_nb rfl rfl rfl (fun hg5 => ?_) (fun hg5 => ?_)
              | refine W_guard_split rfl rfl rfl (fun hg5 => ?_) (fun hg5 => ?_)
            all_goals try (exfalso; first | omega | (simp only [Bool.false_eq_true, reduceCtorEq] at hg5; done) | (refine absurd hg5 ?_; with_reducible assumption) | (refine absurd ?_ hg5; with_reducible assumption))
            all_goals (
             first
               | (iterate 2 refine W_guard_no rfl rfl rfl ?_)
               | (iterate 2 refine W_guard_un rfl rfl ?_)
               | (refine W_guard_yes rfl ?_
                  refine W_move rfl rfl ?_
                  refine W_guard_yes rfl ?_
                  refine W_pcall hp rfl (in_spec c [33, 35, 36, 37, 38, 39, 42, 43, 45, 46, 94, 95, 96, 124, 126] (by decide)) rfl ?_
                  clear hp; intro w hp)
             first
               | (refine W_pick_t rfl rfl rfl ?_)
               | (refine W_pick_f rfl rfl rfl ?_)
               | (refine W_pick_b rfl rfl rfl rfl ?_)
             refine W_assign rfl rfl ?_
             refine W_nil ?_
             refine N_then_k ?_
             refine K_ret ?_
             refine N_block_ret ?_
             refine N_then_ret ?_
             refine N_done1 (.inr rfl) rfl rfl ?_
             refine ⟨_, rfl, congrArg Value.bool ?_, hp.nil⟩
             first
               | rfl
               | (refine Bool.eq_iff_iff.2 ?_; simp only [Bool.not_eq_true', decide_eq_true_eq, decide_eq_false_iff_not]; omega)
               | (refine (decide_eq_true ?_).symm; first | omega | (rw [← hcl]; first | exact Or.inl (by assumption) | exact Or.inr (Or.inl (by assumption)) | (constructor <;> intro h <;> first | exact Or.inr (Or.inr h) | (rcases h with h | h | h <;> first | exact h | contradiction))))
               | (refine (decide_eq_false ?_).symm; first | omega | (rw [← hcl]; first | exact Or.inl (by assumption) | exact Or.inr (Or.inl (by assumption)) | (constructor <;> intro h <;> first | exact Or.inr (Or.inr h) | (rcases h with h | h | h <;> first | exact h | contradiction))))
               | (refine decide_eq_decide.2 ?_; first | omega | (rw [← hcl]; first | exact Or.inl (by assumption) | exact Or.inr (Or.inl (by assumption)) | (constructor <;> intro h <;> first | exact Or.inr (Or.inr h) | (rcases h with h | h | h <;> first | exact h | contradiction)))))))
        · try (exfalso; first | omega | (simp only [Bool.false_eq_true, reduceCtorEq] at hc3; done) | (refine absurd hc3 ?_; with_reducible assumption) | (refine absurd ?_ hc3; with_reducible assumption))
          all_goals (
           refine K_seq ?_
           refine K_region ?_
           first
             | (refine W_eql_t rfl rfl ?_ rfl ?_; (focus (omega)))
             | (refine W_eql_f rfl rfl ?_ rfl ?_; (focus (omega)))
             | (refine W_eql rfl rfl rfl ?_)
           refine W_assign rfl rfl ?_
           refine W_nil ?_
           refine N_then_k ?_
           first
             | refine K_cond_d rfl (fun hc6 => ?_) (fun hc6 => ?_)
             | refine K_cond_n rfl (fun hc6 => ?_) (fun hc6 => ?_)
             | refine K_cond_nb rfl (fun hc6 => ?_) (fun hc6 => ?_)
             | refine K_cond_t rfl (fun hc6 => ?_) (fun hc6 => ?_)
           · try (exfalso; first | omega | (simp only [Bool.false_eq_true, reduceCtorEq] at hc6; done) | (refine absurd hc6 ?_; with_reducible assumption) | (refine absurd ?_ hc6; with_reducible assumption))
             all_goals (
              refine K_seq ?_
              refine K_region ?_
              refine W_move rfl rfl ?_
              refine W_move rfl rfl ?_
              first
                | refine W_guard_lit_t rfl ?_
                | refine W_guard_lit_f rfl ?_
                | refine W_guard_lit_u rfl ?_
                | refine W_guard_split_d rfl rfl rfl (fun hg7 => ?_) (fun hg7 => ?_)
                | refine W_guard_split_n rfl rfl rfl (fun hg7 => ?_) (fun hg7 => ?_)
                | refine W_guard_split_nb rfl rfl rfl (fun hg7 => ?_) (fun hg7 => ?_)
                | refine W_guard_split rfl rfl rfl (fun hg7 => ?_) (fun hg7 => ?_)
              all_goals try (exfalso; first | omega | (simp only [Bool.false_eq_true, reduceCtorEq] at hg7; done) | (refine absurd hg7 ?_; with_reducible assumption) | (refine absurd ?_ hg7; with_reducible assumption))
              all_goals (
               first
                 | (refine W_guard_no rfl rfl rfl ?_)
                 | (refine W_guard_un rfl rfl ?_)
                 | (refine W_guard_yes rfl ?_
                    refine W_move rfl rfl ?_)
               first
                 | (refine W_pick_t rfl rfl rfl ?_)
                 | (refine W_pick_f rfl rfl rfl ?_)
                 | (refine W_pick_b rfl rfl rfl rfl ?_)
               refine W_move rfl rfl ?_
               first
                 | refine W_guard_lit_t rfl ?_
                 | refine W_guard_lit_f rfl ?_
                 | refine W_guard_lit_u rfl ?_
                 | refine W_guard_split_d rfl rfl rfl (fun hg8 => ?_) (fun hg8 => ?_)
                 | refine W_guard_split_n rfl rfl rfl (fun hg8 => ?_) (fun hg8 => ?_)
                 | refine W_guard_split_nb rfl rfl rfl (fun hg8 => ?_) (fun hg8 => ?_)
                 | refine W_guard_split rfl rfl rfl (fun hg8 => ?_) (fun hg8 => ?_)
               all_goals try (exfalso; first | omega | (simp only [Bool.false_eq_true, reduceCtorEq] at hg8; done) | (refine absurd hg8 ?_; with_reducible assumption) | (refine absurd ?_ hg8; with_reducible assumption))
               all_goals (
                first
                  | (iterate 2 refine W_guard_no rfl rfl rfl ?_)
                  | (iterate 2 refine W_guard_un rfl rfl ?_)
                  | (refine W_guard_yes rfl ?_
                     refine W_move rfl rfl ?_
                     refine W_guard_yes rfl ?_
                     refine W_pcall hp rfl (in_spec c [45, 46, 95, 126] (by decide)) rfl ?_
                     clear hp; intro w hp)
                first
                  | (refine W_pick_t rfl rfl rfl ?_)
                  | (refine W_pick_f rfl rfl rfl ?_)
                  | (refine W_pick_b rfl rfl rfl rfl ?_)
                refine W_assign rfl rfl ?_
                refine W_nil ?_
                refine N_then_k ?_
                refine K_ret ?_
                refine N_block_ret ?_
                refine N_then_ret ?_
                refine N_done1 (.inr rfl) rfl rfl ?_
                refine ⟨_, rfl, congrArg Value.bool ?_, hp.nil⟩
                first
                  | rfl
                  | (refine Bool.eq_iff_iff.2 ?_; simp only [Bool.not_eq_true', decide_eq_true_eq, decide_eq_false_iff_not]; omega)
                  | (refine (decide_eq_true ?_).symm; first | omega | (rw [← hcl]; first | exact Or.inl (by assumption) | exact Or.inr (Or.inl (by assumption)) | (constructor <;> intro h <;> first | exact Or.inr (Or.inr h) | (rcases h with h | h | h <;> first | exact h | contradiction))))
                  | (refine (decide_eq_false ?_).symm; first | omega | (rw [← hcl]; first | exact Or.inl (by assumption) | exact Or.inr (Or.inl (by assumption)) | (constructor <;> intro h <;> first | exact Or.inr (Or.inr h) | (rcases h with h | h | h <;> first | exact h | contradiction))))
                  | (refine decide_eq_decide.2 ?_; first | omega | (rw [← hcl]; first | exact Or.inl (by assumption) | exact Or.inr (Or.inl (by assumption)) | (constructor <;> intro h <;> first | exact Or.inr (Or.inr h) | (rcases h with h | h | h <;> first | exact h | contradiction)))))))
           · try (exfalso; first | omega | (simp only [Bool.false_eq_true, reduceCtorEq] at hc6; done) | (refine absurd hc6 ?_; with_reducible assumption) | (refine absurd ?_ hc6; with_reducible assumption))
             all_goals (
              refine K_seq ?_
              refine K_region ?_
              first
                | (refine W_eql_t rfl rfl ?_ rfl ?_; (focus (omega)))
                | (refine W_eql_f rfl rfl ?_ rfl ?_; (focus (omega)))
                | (refine W_eql rfl rfl rfl ?_)
              refine W_assign rfl rfl ?_
              refine W_nil ?_
              refine N_then_k ?_
              first
                | refine K_cond_d rfl (fun hc9 => ?_) (fun hc9 => ?_)
                | refine K_cond_n rfl (fun hc9 => ?_) (fun hc9 => ?_)
                | refine K_cond_nb rfl (fun hc9 => ?_) (fun hc9 => ?_)
                | refine K_cond_t rfl (fun hc9 => ?_) (fun hc9 => ?_)
              · try (exfalso; first | omega | (simp only [Bool.false_eq_true, reduceCtorEq] at hc9; done) | (refine absurd hc9 ?_; with_reducible assumption) | (refine absurd ?_ hc9; with_reducible assumption))
                all_goals (
                 refine K_seq ?_
                 refine K_region ?_
                 refine W_move rfl rfl ?_
                 refine W_move rfl rfl ?_
                 first
                   | refine W_guard_lit_t rfl ?_
                   | refine W_guard_lit_f rfl ?_
                   | refine W_guard_lit_u rfl ?_
                   | refine W_guard_split_d rfl rfl rfl (fun hg10 => ?_) (fun hg10 => ?_)
                   | refine W_guard_split_n rfl rfl rfl (fun hg10 => ?_) (fun hg10 => ?_)
                   | refine W_guard_split_nb rfl rfl rfl (fun hg10 => ?_) (fun hg10 => ?_)
                   | refine W_guard_split rfl rfl rfl (fun hg10 => ?_) (fun hg10 => ?_)
                 all_goals try (exfalso; first | omega | (simp only [Bool.false_eq_true, reduceCtorEq] at hg10; done) | (refine absurd hg10 ?_; with_reducible assumption) | (refine absurd ?_ hg10; with_reducible assumption))
                 all_goals (
                  first
                    | (refine W_guard_no rfl rfl rfl ?_)
                    | (refine W_guard_un rfl rfl ?_)
                    | (refine W_guard_yes rfl ?_
                       refine W_move rfl rfl ?_)
                  first
                    | (refine W_pick_t rfl rfl rfl ?_)
                    | (refine W_pick_f rfl rfl rfl ?_)
                    | (refine W_pick_b rfl rfl rfl rfl ?_)
                  refine W_move rfl rfl ?_
                  first
                    | refine W_guard_lit_t rfl ?_
                    | refine W_guard_lit_f rfl ?_
                    | refine W_guard_lit_u rfl ?_
                    | refine W_guard_split_d rfl rfl rfl (fun hg11 => ?_) (fun hg11 => ?_)
                    | refine W_guard_split_n rfl rfl rfl (fun hg11 => ?_) (fun hg11 => ?_)
                    | refine W_guard_split_nb rfl rfl rfl (fun hg11 => ?_) (fun hg11 => ?_)
                    | refine W_guard_split rfl rfl rfl (fun hg11 => ?_) (fun hg11 => ?_)
                  all_goals try (exfalso; first | omega | (simp only [Bool.false_eq_true, reduceCtorEq] at hg11; done) | (refine absurd hg11 ?_; with_reducible assumption) | (refine absurd ?_ hg11; with_reducible assumption))
                  all_goals (
                   first
                     | (iterate 2 refine W_guard_no rfl rfl rfl ?_)
                     | (iterate 2 refine W_guard_un rfl rfl ?_)
                     | (refine W_guard_yes rfl ?_
                        refine W_move rfl rfl ?_
                        refine W_guard_yes rfl ?_
                        refine W_pcall hp rfl (in_spec c [45, 46, 95, 126, 33, 36, 38, 39, 40, 41, 42, 43, 44, 59, 61, 58, 64] (by decide)) rfl ?_
                        clear hp; intro w hp)
                   first
                     | (refine W_pick_t rfl rfl rfl ?_)
                     | (refine W_pick_f rfl rfl rfl ?_)
                     | (refine W_pick_b rfl rfl rfl rfl ?_)
                   refine W_assign rfl rfl ?_
                   refine W_nil ?_
                   refine N_then_k ?_
                   refine K_ret ?_
                   refine N_block_ret ?_
                   refine N_then_ret ?_
                   refine N_done1 (.inr rfl) rfl rfl ?_
                   refine ⟨_, rfl, congrArg Value.bool ?_, hp.nil⟩
                   first
                     | rfl
                     | (refine Bool.eq_iff_iff.2 ?_; simp only [Bool.not_eq_true', decide_eq_true_eq, decide_eq_false_iff_not]; omega)
                     | (refine (decide_eq_true ?_).symm; first | omega | (rw [← hcl]; first | exact Or.inl (by assumption) | exact Or.inr (Or.inl (by assumption)) | (constructor <;> intro h <;> first | exact Or.inr (Or.inr h) | (rcases h with h | h | h <;> first | exact h | contradiction))))
                     | (refine (decide_eq_false ?_).symm; first | omega | (rw [← hcl]; first | exact Or.inl (by assumption) | exact Or.inr (Or.inl (by assumption)) | (constructor <;> intro h <;> first | exact Or.inr (Or.inr h) | (rcases h with h | h | h <;> first | exact h | contradiction))))
                     | (refine decide_eq_decide.2 ?_; first | omega | (rw [← hcl]; first | exact Or.inl (by assumption) | exact Or.inr (Or.inl (by assumption)) | (constructor <;> intro h <;> first | exact Or.inr (Or.inr h) | (rcases h with h | h | h <;> first | exact h | contradiction)))))))
              · try (exfalso; first | omega | (simp only [Bool.false_eq_true, reduceCtorEq] at hc9; done) | (refine absurd hc9 ?_; with_reducible assumption) | (refine absurd ?_ hc9; with_reducible assumption))
                all_goals (
                 refine K_skip ?_
                 refine N_block_normal ?_
                 refine N_then_k ?_
                 refine K_seq ?_
                 refine K_region ?_
                 refine W_move rfl rfl ?_
                 first
                   | (refine W_eql_t rfl rfl ?_ rfl ?_; (focus (omega)))
                   | (refine W_eql_f rfl rfl ?_ rfl ?_; (focus (omega)))
                   | (refine W_eql rfl rfl rfl ?_)
                 refine W_move rfl rfl ?_
                 first
                   | refine W_guard_lit_t rfl ?_
                   | refine W_guard_lit_f rfl ?_
                   | refine W_guard_lit_u rfl ?_
                   | refine W_guard_split_d rfl rfl rfl (fun hg12 => ?_) (fun hg12 => ?_)
                   | refine W_guard_split_n rfl rfl rfl (fun hg12 => ?_) (fun hg12 => ?_)
                   | refine W_guard_split_nb rfl rfl rfl (fun hg12 => ?_) (fun hg12 => ?_)
                   | refine W_guard_split rfl rfl rfl (fun hg12 => ?_) (fun hg12 => ?_)
                 all_goals try (exfalso; first | omega | (simp only [Bool.false_eq_true, reduceCtorEq] at hg12; done) | (refine absurd hg12 ?_; with_reducible assumption) | (refine absurd ?_ hg12; with_reducible assumption))
                 all_goals (
                  first
                    | (iterate 3 refine W_guard_no rfl rfl rfl ?_)
                    | (iterate 3 refine W_guard_un rfl rfl ?_)
                    | (refine W_guard_yes rfl ?_
                       refine W_move rfl rfl ?_
                       refine W_guard_yes rfl ?_
                       first
                         | (refine W_geq_t rfl rfl ?_ rfl ?_; (focus (omega)))
                         | (refine W_geq_f rfl rfl ?_ rfl ?_; (focus (omega)))
                         | (refine W_geq rfl rfl rfl ?_)
                       refine W_guard_yes rfl ?_
                       refine W_move rfl rfl ?_)
                  first
                    | refine W_guard_lit_t rfl ?_
                    | refine W_guard_lit_f rfl ?_
                    | refine W_guard_lit_u rfl ?_
                    | refine W_guard_split_d rfl rfl rfl (fun hg13 => ?_) (fun hg13 => ?_)
                    | refine W_guard_split_n rfl rfl rfl (fun hg13 => ?_) (fun hg13 => ?_)
                    | refine W_guard_split_nb rfl rfl rfl (fun hg13 => ?_) (fun hg13 => ?_)
                    | refine W_guard_split rfl rfl rfl (fun hg13 => ?_) (fun hg13 => ?_)
                  all_goals try (exfalso; first | omega | (simp only [Bool.false_eq_true, reduceCtorEq] at hg13; done) | (refine absurd hg13 ?_; with_reducible assumption) | (refine absurd ?_ hg13; with_reducible assumption))
                  all_goals (
                   first
                     | (iterate 2 refine W_guard_no rfl rfl rfl ?_)
                     | (iterate 2 refine W_guard_un rfl rfl ?_)
                     | (refine W_guard_yes rfl ?_
                        refine W_move rfl rfl ?_
                        refine W_guard_yes rfl ?_
                        first
                          | (refine W_neq_t rfl rfl ?_ rfl ?_; (focus (omega)))
                          | (refine W_neq_f rfl rfl ?_ rfl ?_; (focus (omega)))
                          | (refine W_neq rfl rfl rfl ?_))
                   first
                     | (refine W_guard_no rfl rfl rfl ?_)
                     | (refine W_guard_un rfl rfl ?_)
                     | (refine W_guard_yes rfl ?_
                        first
                          | (refine W_pick_t rfl rfl rfl ?_)
                          | (refine W_pick_f rfl rfl rfl ?_)
                          | (refine W_pick_b rfl rfl rfl rfl ?_))
                   first
                     | (refine W_pick_t rfl rfl rfl ?_)
                     | (refine W_pick_f rfl rfl rfl ?_)
                     | (refine W_pick_b rfl rfl rfl rfl ?_)
                   refine W_assign rfl rfl ?_
                   refine W_nil ?_
                   refine N_then_k ?_
                   refine K_ret ?_
                   refine N_done1 (.inr rfl) rfl rfl ?_
                   refine ⟨_, rfl, congrArg Value.bool ?_, hp.nil⟩
                   first
                     | rfl
                     | (refine Bool.eq_iff_iff.2 ?_; simp only [Bool.not_eq_true', decide_eq_true_eq, decide_eq_false_iff_not]; omega)
                     | (refine (decide_eq_true ?_).symm; first | omega | (rw [← hcl]; first | exact Or.inl (by assumption) | exact Or.inr (Or.inl (by assumption)) | (constructor <;> intro h <;> first | exact Or.inr (Or.inr h) | (rcases h with h | h | h <;> first | exact h | contradiction))))
                     | (refine (decide_eq_false ?_).symm; first | omega | (rw [← hcl]; first | exact Or.inl (by assumption) | exact Or.inr (Or.inl (by assumption)) | (constructor <;> intro h <;> first | exact Or.inr (Or.inr h) | (rcases h with h | h | h <;> first | exact h | contradiction))))
                     | (refine decide_eq_decide.2 ?_; first | omega | (rw [← hcl]; first | exact Or.inl (by assumption) | exact Or.inr (Or.inl (by assumption)) | (constructor <;> intro h <;> first | exact Or.inr (Or.inr h) | (rcases h with h | h | h <;> first | exact h | contradiction)))))))))))

theorem class2_spec (c : UInt8) : PureF Tryd.prog 21 [.int .u8 (c.toNat : Int), .int .i64 2] (.bool (decide (TokenP c.toNat))) := by
  have hu := c.toNat_lt
  have hcl := in_class2 c
  refine PureF.intro go21 Tryd.func21 rfl rfl fun w0 hp => ?_
  refine K_seq ?_
  refine K_region ?_
  refine W_assign rfl rfl ?_
  refine W_nil ?_
  refine N_then_k ?_
  refine K_seq ?_
  refine K_region ?_
  refine W_move rfl rfl ?_
  refine W_pcall hp rfl (letters_spec) rfl ?_
  clear hp; intro w hp
  refine W_pcall hp rfl ((in_spec c [65, 66, 67, 68, 69, 70, 71, 72, 73, 74, 75, 76, 77, 78, 79, 80, 81, 82, 83, 84, 85, 86, 87, 88, 89, 90, 97, 98, 99, 100, 101, 102, 103, 104, 105, 106, 107, 108, 109, 110, 111, 112, 113, 114, 115, 116, 117, 118, 119, 120, 121, 122] (by decide)).eq (in_letters c)) rfl ?_
  clear hp; intro w hp
  refine W_assign rfl rfl ?_
  refine W_nil ?_
  refine N_then_k ?_
  refine K_seq ?_
  refine K_region ?_
  refine W_move rfl rfl ?_
  refine W_pcall hp rfl ((in_spec c [48, 49, 50, 51, 52, 53, 54, 55, 56, 57] (by decide)).eq (in_digits c)) rfl ?_
  clear hp; intro w hp
  refine W_assign rfl rfl ?_
  refine W_nil ?_
  refine N_then_k ?_
  refine K_seq ?_
  refine K_seq ?_
  refine K_region ?_
  refine W_move rfl rfl ?_
  refine W_nil ?_
  refine N_then_k ?_
  refine K_block ?_
  refine K_seq ?_
  refine K_region ?_
  first
    | (refine W_eql_t rfl rfl ?_ rfl ?_; (focus (omega)))
    | (refine W_eql_f rfl rfl ?_ rfl ?_; (focus (omega)))
    | (refine W_eql rfl rfl rfl ?_)
  refine W_assign rfl rfl ?_
  refine W_nil ?_
  refine N_then_k ?_
  first
    | refine K_cond_d rfl (fun hc1 => ?_) (fun hc1 => ?_)
    | refine K_cond_n rfl (fun hc1 => ?_) (fun hc1 => ?_)
    | refine K_cond_nb rfl (fun hc1 => ?_) (fun hc1 => ?_)
    | refine K_cond_t rfl (fun hc1 => ?_) (fun hc1 => ?_)
  · try (exfalso; first | omega | (simp only [Bool.false_eq_true, reduceCtorEq] at hc1; done) | (refine absurd hc1 ?_; with_reducible assumption) | (refine absurd ?_ hc1; with_reducible assumption))
    all_goals (
     refine K_seq ?_
     refine K_region ?_
     refine W_move rfl rfl ?_
     refine W_assign rfl rfl ?_
     refine W_nil ?_
     refine N_then_k ?_
     refine K_ret ?_
     refine N_block_ret ?_
     refine N_then_ret ?_
     refine N_done1 (.inr rfl) rfl rfl ?_
     refine ⟨_, rfl, congrArg Value.bool ?_, hp.nil⟩
     first
       | rfl
       | (refine Bool.eq_iff_iff.2 ?_; simp only [Bool.not_eq_true', decide_eq_true_eq, decide_eq_false_iff_not]; omega)
       | (refine (decide_eq_true ?_).symm; first | omega | (rw [← hcl]; first | exact Or.inl (by assumption) | exact Or.inr (Or.inl (by assumption)) | (constructor <;> intro h <;> first | exact Or.inr (Or.inr h) | (rcases h with h | h | h <;> first | exact h | contradiction))))
       | (refine (decide_eq_false ?_).symm; first | omega | (rw [← hcl]; first | exact Or.inl (by assumption) | exact Or.inr (Or.inl (by assumption)) | (constructor <;> intro h <;> first | exact Or.inr (Or.inr h) | (rcases h with h | h | h <;> first | exact h | contradiction))))
       | (refine decide_eq_decide.2 ?_; first | omega | (rw [← hcl]; first | exact Or.inl (by assumption) | exact Or.inr (Or.inl (by assumption)) | (constructor <;> intro h <;> first | exact Or.inr (Or.inr h) | (rcases h with h | h | h <;> first | exact h | contradiction)))))
  · try (exfalso; first | omega | (simp only [Bool.false_eq_true, reduceCtorEq] at hc1; done) | (refine absurd hc1 ?_; with_reducible assumption) | (refine absurd ?_ hc1; with_reducible assumption))
    all_goals (
     refine K_seq ?_
     refine K_region ?_
     first
       | (refine W_eql_t rfl rfl ?_ rfl ?_; (focus (omega)))
       | (refine W_eql_f rfl rfl ?_ rfl ?_; (focus (omega)))
       | (refine W_eql rfl rfl rfl ?_)
     refine W_assign rfl rfl ?_
     refine W_nil ?_
     refine N_then_k ?_
     first
       | refine K_cond_d rfl (fun hc2 => ?_) (fun hc2 => ?_)
       | refine K_cond_n rfl (fun hc2 => ?_) (fun hc2 => ?_)
       | refine K_cond_nb rfl (fun hc2 => ?_) (fun hc2 => ?_)
       | refine K_cond_t rfl (fun hc2 => ?_) (fun hc2 => ?_)
     · try (exfalso; first | omega | (simp only [Bool.false_eq_true, reduceCtorEq] at hc2; done) | (refine absurd hc2 ?_; with_reducible assumption) | (refine absurd ?_ hc2; with_reducible assumption))
       all_goals (
        refine K_seq ?_
        refine K_region ?_
        refine W_move rfl rfl ?_
        refine W_assign rfl rfl ?_
        refine W_nil ?_
        refine N_then_k ?_
        refine K_ret ?_
        refine N_block_ret ?_
        refine N_then_ret ?_
        refine N_done1 (.inr rfl) rfl rfl ?_
        refine ⟨_, rfl, congrArg Value.bool ?_, hp.nil⟩
        first
          | rfl
          | (refine Bool.eq_iff_iff.2 ?_; simp only [Bool.not_eq_true', decide_eq_true_eq, decide_eq_false_iff_not]; omega)
          | (refine (decide_eq_true ?_).symm; first | omega | (rw [← hcl]; first | exact Or.inl (by assumption) | exact Or.inr (Or.inl (by assumption)) | (constructor <;> intro h <;> first | exact Or.inr (Or.inr h) | (rcases h with h | h | h <;> first | exact h | contradiction))))
          | (refine (decide_eq_false ?_).symm; first | omega | (rw [← hcl]; first | exact Or.inl (by assumption) | exact Or.inr (Or.inl (by assumption)) | (constructor <;> intro h <;> first | exact Or.inr (Or.inr h) | (rcases h with h | h | h <;> first | exact h | contradiction))))
          | (refine decide_eq_decide.2 ?_; first | omega | (rw [← hcl]; first | exact Or.inl (by assumption) | exact Or.inr (Or.inl (by assumption)) | (constructor <;> intro h <;> first | exact Or.inr (Or.inr h) | (rcases h with h | h | h <;> first | exact h | contradiction)))))
     · try (exfalso; first | omega | (simp only [Bool.false_eq_true, reduceCtorEq] at hc2; done) | (refine absurd hc2 ?_; with_reducible assumption) | (refine absurd ?_ hc2; with_reducible assumption))
       all_goals (
        refine K_seq ?_
        refine K_region ?_
        first
          | (refine W_eql_t rfl rfl ?_ rfl ?_; (focus (omega)))
          | (refine W_eql_f rfl rfl ?_ rfl ?_; (focus (omega)))
          | (refine W_eql rfl rfl rfl ?_)
        refine W_assign rfl rfl ?_
        refine W_nil ?_
        refine N_then_k ?_
        first
          | refine K_cond_d rfl (fun hc3 => ?_) (fun hc3 => ?_)
          | refine K_cond_n rfl (fun hc3 => ?_) (fun hc3 => ?_)
          | refine K_cond_nb rfl (fun hc3 => ?_) (fun hc3 => ?_)
          | refine K_cond_t rfl (fun hc3 => ?_) (fun hc3 => ?_)
        · try (exfalso; first | omega | (simp only [Bool.false_eq_true, reduceCtorEq] at hc3; done) | (refine absurd hc3 ?_; with_reducible assumption) | (refine absurd ?_ hc3; with_reducible assumption))
          all_goals (
           refine K_seq ?_
           refine K_region ?_
           refine W_move rfl rfl ?_
           refine W_move rfl rfl ?_
           first
             | refine W_guard_lit_t rfl ?_
             | refine W_guard_lit_f rfl ?_
             | refine W_guard_lit_u rfl ?_
             | refine W_guard_split_d rfl rfl rfl (fun hg4 => ?_) (fun hg4 => ?_)
             | refine W_guard_split_n rfl rfl rfl (fun hg4 => ?_) (fun hg4 => ?_)
             | refine W_guard_split_nb rfl rfl rfl (fun hg4 => ?_) (fun hg4 => ?_)
             | refine W_guard_split rfl rfl rfl (fun hg4 => ?_) (fun hg4 => ?_)
           all_goals try (exfalso; first | omega | (simp only [Bool.false_eq_true, reduceCtorEq] at hg4; done) | (refine absurd hg4 ?_; with_reducible assumption) | (refine absurd ?_ hg4; with_reducible assumption))
           all_goals (
            first
              | (refine W_guard_no rfl rfl rfl ?_)
              | (refine W_guard_un rfl rfl ?_)
              | (refine W_guard_yes rfl ?_
                 refine W_move rfl rfl ?_)
            first
              | (refine W_pick_t rfl rfl rfl ?_)
              | (refine W_pick_f rfl rfl rfl ?_)
              | (refine W_pick_b rfl rfl rfl rfl ?_)
            refine W_move rfl rfl ?_
            first
              | refine W_guard_lit_t rfl ?_
              | refine W_guard_lit_f rfl ?_
              | refine W_guard_lit_u rfl ?_
              | refine W_guard_split_d rfl rfl rfl (fun hg5 => ?_) (fun hg5 => ?_)
              | refine W_guard_split_n rfl rfl rfl (fun hg5 => ?_) (fun hg5 => ?_)
              | refine W_guard_split_nb rfl rfl rfl (fun hg5 => ?_) (fun hg5 => ?_)
              | refine W_guard_split rfl rfl rfl (fun hg5 => ?_) (fun hg5 => ?_)
            all_goals try (exfalso; first | omega | (simp only [Bool.false_eq_true, reduceCtorEq] at hg5; done) | (refine absurd hg5 ?_; with_reducible assumption) | (refine absurd ?_ hg5; with_reducible assumption))
            all_goals (
             first
               | (iterate 2 refine W_guard_no rfl rfl rfl ?_)
               | (iterate 2 refine W_guard_un rfl rfl ?_)
               | (refine W_guard_yes rfl ?_
                  refine W_move rfl rfl ?_
                  refine W_guard_yes rfl ?_
                  refine W_pcall hp rfl (in_spec c [33, 35, 36, 37, 38, 39, 42, 43, 45, 46, 94, 95, 96, 124, 126] (by decide)) rfl ?_
                  clear hp; intro w hp)
             first
               | (refine W_pick_t rfl rfl rfl ?_)
               | (refine W_pick_f rfl rfl rfl ?_)
               | (refine W_pick_b rfl rfl rfl rfl ?_)
             refine W_assign rfl rfl ?_
             refine W_nil ?_
             refine N_then_k ?_
             refine K_ret ?_
             refine N_block_ret ?_
             refine N_then_ret ?_
             refine N_done1 (.inr rfl) rfl rfl ?_
             refine ⟨_, rfl, congrArg Value.bool ?_, hp.nil⟩
             first
               | rfl
               | (refine Bool.eq_iff_iff.2 ?_; simp only [Bool.not_eq_true', decide_eq_true_eq, decide_eq_false_iff_not]; omega)
               | (refine (decide_eq_true ?_).symm; first | omega | (rw [← hcl]; first | exact Or.inl (by assumption) | exact Or.inr (Or.inl (by assumption)) | (constructor <;> intro h <;> first | exact Or.inr (Or.inr h) | (rcases h with h | h | h <;> first | exact h | contradiction))))
               | (refine (decide_eq_false ?_).symm; first | omega | (rw [← hcl]; first | exact Or.inl (by assumption) | exact Or.inr (Or.inl (by assumption)) | (constructor <;> intro h <;> first | exact Or.inr (Or.inr h) | (rcases h with h | h | h <;> first | exact h | contradiction))))
               | (refine decide_eq_decide.2 ?_; first | omega | (rw [← hcl]; first | exact Or.inl (by assumption) | exact Or.inr (Or.inl (by assumption)) | (constructor <;> intro h <;> first | exact Or.inr (Or.inr h) | (rcases h with h | h | h <;> first | exact h | contradiction)))))))
        · try (exfalso; first | omega | (simp only [Bool.false_eq_true, reduceCtorEq] at hc3; done) | (refine absurd hc3 ?_; with_reducible assumption) | (refine absurd ?_ hc3; with_reducible assumption))
          all_goals (
           refine K_seq ?_
           refine K_region ?_
           first
             | (refine W_eql_t rfl rfl ?_ rfl ?_; (focus (omega)))
             | (refine W_eql_f rfl rfl ?_ rfl ?_; (focus (omega)))
             | (refine W_eql rfl rfl rfl ?_)
           refine W_assign rfl rfl ?_
           refine W_nil ?_
           refine N_then_k ?_
           first
             | refine K_cond_d rfl (fun hc6 => ?_) (fun hc6 => ?_)
             | refine K_cond_n rfl (fun hc6 => ?_) (fun hc6 => ?_)
             | refine K_cond_nb rfl (fun hc6 => ?_) (fun hc6 => ?_)
             | refine K_cond_t rfl (fun hc6 => ?_) (fun hc6 => ?_)
           · try (exfalso; first | omega | (simp only [Bool.false_eq_true, reduceCtorEq] at hc6; done) | (refine absurd hc6 ?_; with_reducible assumption) | (refine absurd ?_ hc6; with_reducible assumption))
             all_goals (
              refine K_seq ?_
              refine K_region ?_
              refine W_move rfl rfl ?_
              refine W_move rfl rfl ?_
              first
                | refine W_guard_lit_t rfl ?_
                | refine W_guard_lit_f rfl ?_
                | refine W_guard_lit_u rfl ?_
                | refine W_guard_split_d rfl rfl rfl (fun hg7 => ?_) (fun hg7 => ?_)
                | refine W_guard_split_n rfl rfl rfl (fun hg7 => ?_) (fun hg7 => ?_)
                | refine W_guard_split_nb rfl rfl rfl (fun hg7 => ?_) (fun hg7 => ?_)
                | refine W_guard_split rfl rfl rfl (fun hg7 => ?_) (fun hg7 => ?_)
              all_goals try (exfalso; first | omega | (simp only [Bool.false_eq_true, reduceCtorEq] at hg7; done) | (refine absurd hg7 ?_; with_reducible assumption) | (refine absurd ?_ hg7; with_reducible assumption))
              all_goals (
               first
                 | (refine W_guard_no rfl rfl rfl ?_)
                 | (refine W_guard_un rfl rfl ?_)
                 | (refine W_guard_yes rfl ?_
                    refine W_move rfl rfl ?_)
               first
                 | (refine W_pick_t rfl rfl rfl ?_)
                 | (refine W_pick_f rfl rfl rfl ?_)
                 | (refine W_pick_b rfl rfl rfl rfl ?_)
               refine W_move rfl rfl ?_
               first
                 | refine W_guard_lit_t rfl ?_
                 | refine W_guard_lit_f rfl ?_
                 | refine W_guard_lit_u rfl ?_
                 | refine W_guard_split_d rfl rfl rfl (fun hg8 => ?_) (fun hg8 => ?_)
                 | refine W_guard_split_n rfl rfl rfl (fun hg8 => ?_) (fun hg8 => ?_)
                 | refine W_guard_split_nb rfl rfl rfl (fun hg8 => ?_) (fun hg8 => ?_)
                 | refine W_guard_split rfl rfl rfl (fun hg8 => ?_) (fun hg8 => ?_)
               all_goals try (exfalso; first | omega | (simp only [Bool.false_eq_true, reduceCtorEq] at hg8; done) | (refine absurd hg8 ?_; with_reducible assumption) | (refine absurd ?_ hg8; with_reducible assumption))
               all_goals (
                first
                  | (iterate 2 refine W_guard_no rfl rfl rfl ?_)
                  | (iterate 2 refine W_guard_un rfl rfl ?_)
                  | (refine W_guard_yes rfl ?_
                     refine W_move rfl rfl ?_
                     refine W_guard_yes rfl ?_
                     refine W_pcall hp rfl (in_spec c [45, 46, 95, 126] (by decide)) rfl ?_
                     clear hp; intro w hp)
                first
                  | (refine W_pick_t rfl rfl rfl ?_)
                  | (refine W_pick_f rfl rfl rfl ?_)
                  | (refine W_pick_b rfl rfl rfl rfl ?_)
                refine W_assign rfl rfl ?_
                refine W_nil ?_
                refine N_then_k ?_
                refine K_ret ?_
                refine N_block_ret ?_
                refine N_then_ret ?_
                refine N_done1 (.inr rfl) rfl rfl ?_
                refine ⟨_, rfl, congrArg Value.bool ?_, hp.nil⟩
                first
                  | rfl
                  | (refine Bool.eq_iff_iff.2 ?_; simp only [Bool.not_eq_true', decide_eq_true_eq, decide_eq_false_iff_not]; omega)
                  | (refine (decide_eq_true ?_).symm; first | omega | (rw [← hcl]; first | exact Or.inl (by assumption) | exact Or.inr (Or.inl (by assumption)) | (constructor <;> intro h <;> first | exact Or.inr (Or.inr h) | (rcases h with h | h | h <;> first | exact h | contradiction))))
                  | (refine (decide_eq_false ?_).symm; first | omega | (rw [← hcl]; first | exact Or.inl (by assumption) | exact Or.inr (Or.inl (by assumption)) | (constructor <;> intro h <;> first | exact Or.inr (Or.inr h) | (rcases h with h | h | h <;> first | exact h | contradiction))))
                  | (refine decide_eq_decide.2 ?_; first | omega | (rw [← hcl]; first | exact Or.inl (by assumption) | exact Or.inr (Or.inl (by assumption)) | (constructor <;> intro h <;> first | exact Or.inr (Or.inr h) | (rcases h with h | h | h <;> first | exact h | contradiction)))))))
           · try (exfalso; first | omega | (simp only [Bool.false_eq_true, reduceCtorEq] at hc6; done) | (refine absurd hc6 ?_; with_reducible assumption) | (refine absurd ?_ hc6; with_reducible assumption))
             all_goals (
              refine K_seq ?_
              refine K_region ?_
              first
                | (refine W_eql_t rfl rfl ?_ rfl ?_; (focus (omega)))
                | (refine W_eql_f rfl rfl ?_ rfl ?_; (focus (omega)))
                | (refine W_eql rfl rfl rfl ?_)
              refine W_assign rfl rfl ?_
              refine W_nil ?_
              refine N_then_k ?_
              first
                | refine K_cond_d rfl (fun hc9 => ?_) (fun hc9 => ?_)
                | refine K_cond_n rfl (fun hc9 => ?_) (fun hc9 => ?_)
                | refine K_cond_nb rfl (fun hc9 => ?_) (fun hc9 => ?_)
                | refine K_cond_t rfl (fun hc9 => ?_) (fun hc9 => ?_)
              · try (exfalso; first | omega | (simp only [Bool.false_eq_true, reduceCtorEq] at hc9; done) | (refine absurd hc9 ?_; with_reducible assumption) | (refine absurd ?_ hc9; with_reducible assumption))
                all_goals (
                 refine K_seq ?_
                 refine K_region ?_
                 refine W_move rfl rfl ?_
                 refine W_move rfl rfl ?_
                 first
                   | refine W_guard_lit_t rfl ?_
                   | refine W_guard_lit_f rfl ?_
                   | refine W_guard_lit_u rfl ?_
                   | refine W_guard_split_d rfl rfl rfl (fun hg10 => ?_) (fun hg10 => ?_)
                   | refine W_guard_split_n rfl rfl rfl (fun hg10 => ?_) (fun hg10 => ?_)
                   | refine W_guard_split_nb rfl rfl rfl (fun hg10 => ?_) (fun hg10 => ?_)
                   | refine W_guard_split rfl rfl rfl (fun hg10 => ?_) (fun hg10 => ?_)
                 all_goals try (exfalso; first | omega | (simp only [Bool.false_eq_true, reduceCtorEq] at hg10; done) | (refine absurd hg10 ?_; with_reducible assumption) | (refine absurd ?_ hg10; with_reducible assumption))
                 all_goals (
                  first
                    | (refine W_guard_no rfl rfl rfl ?_)
                    | (refine W_guard_un rfl rfl ?_)
                    | (refine W_guard_yes rfl ?_
                       refine W_move rfl rfl ?_)
                  first
                    | (refine W_pick_t rfl rfl rfl ?_)
                    | (refine W_pick_f rfl rfl rfl ?_)
                    | (refine W_pick_b rfl rfl rfl rfl ?_)
                  refine W_move rfl rfl ?_
                  first
                    | refine W_guard_lit_t rfl ?_
                    | refine W_guard_lit_f rfl ?_
                    | refine W_guard_lit_u rfl ?_
                    | refine W_guard_split_d rfl rfl rfl (fun hg11 => ?_) (fun hg11 => ?_)
                    | refine W_guard_split_n rfl rfl rfl (fun hg11 => ?_) (fun hg11 => ?_)
                    | refine W_guard_split_nb rfl rfl rfl (fun hg11 => ?_) (fun hg11 => ?_)
                    | refine W_guard_split rfl rfl rfl (fun hg11 => ?_) (fun hg11 => ?_)
                  all_goals try (exfalso; first | omega | (simp only [Bool.false_eq_true, reduceCtorEq] at hg11; done) | (refine absurd hg11 ?_; with_reducible assumption) | (refine absurd ?_ hg11; with_reducible assumption))
                  all_goals (
                   first
                     | (iterate 2 refine W_guard_no rfl rfl rfl ?_)
                     | (iterate 2 refine W_guard_un rfl rfl ?_)
                     | (refine W_guard_yes rfl ?_
                        refine W_move rfl rfl ?_
                        refine W_guard_yes rfl ?_
                        refine W_pcall hp rfl (in_spec c [45, 46, 95, 126, 33, 36, 38, 39, 40, 41, 42, 43, 44, 59, 61, 58, 64] (by decide)) rfl ?_
                        clear hp; intro w hp)
                   first
                     | (refine W_pick_t rfl rfl rfl ?_)
                     | (refine W_pick_f rfl rfl rfl ?_)
                     | (refine W_pick_b rfl rfl rfl rfl ?_)
                   refine W_assign rfl rfl ?_
                   refine W_nil ?_
                   refine N_then_k ?_
                   refine K_ret ?_
                   refine N_block_ret ?_
                   refine N_then_ret ?_
                   refine N_done1 (.inr rfl) rfl rfl ?_
                   refine ⟨_, rfl, congrArg Value.bool ?_, hp.nil⟩
                   first
                     | rfl
                     | (refine Bool.eq_iff_iff.2 ?_; simp only [Bool.not_eq_true', decide_eq_true_eq, decide_eq_false_iff_not]; omega)
                     | (refine (decide_eq_true ?_).symm; first | omega | (rw [← hcl]; first | exact Or.inl (by assumption) | exact Or.inr (Or.inl (by assumption)) | (constructor <;> intro h <;> first | exact Or.inr (Or.inr h) | (rcases h with h | h | h <;> first | exact h | contradiction))))
                     | (refine (decide_eq_false ?_).symm; first | omega | (rw [← hcl]; first | exact Or.inl (by assumption) | exact Or.inr (Or.inl (by assumption)) | (constructor <;> intro h <;> first | exact Or.inr (Or.inr h) | (rcases h with h | h | h <;> first | exact h | contradiction))))
                     | (refine decide_eq_decide.2 ?_; first | omega | (rw [← hcl]; first | exact Or.inl (by assumption) | exact Or.inr (Or.inl (by assumption)) | (constructor <;> intro h <;> first | exact Or.inr (Or.inr h) | (rcases h with h | h | h <;> first | exact h | contradiction)))))))
              · try (exfalso; first | omega | (simp only [Bool.false_eq_true, reduceCtorEq] at hc9; done) | (refine absurd hc9 ?_; with_reducible assumption) | (refine absurd ?_ hc9; with_reducible assumption))
                all_goals (
                 refine K_skip ?_
                 refine N_block_normal ?_
                 refine N_then_k ?_
                 refine K_seq ?_
                 refine K_region ?_
                 refine W_move rfl rfl ?_
                 first
                   | (refine W_eql_t rfl rfl ?_ rfl ?_; (focus (omega)))
                   | (refine W_eql_f rfl rfl ?_ rfl ?_; (focus (omega)))
                   | (refine W_eql rfl rfl rfl ?_)
                 refine W_move rfl rfl ?_
                 first
                   | refine W_guard_lit_t rfl ?_
                   | refine W_guard_lit_f rfl ?_
                   | refine W_guard_lit_u rfl ?_
                   | refine W_guard_split_d rfl rfl rfl (fun hg12 => ?_) (fun hg12 => ?_)
                   | refine W_guard_split_n rfl rfl rfl (fun hg12 => ?_) (fun hg12 => ?_)
                   | refine W_guard_split_nb rfl rfl rfl (fun hg12 => ?_) (fun hg12 => ?_)
                   | refine W_guard_split rfl rfl rfl (fun hg12 => ?_) (fun hg12 => ?_)
                 all_goals try (exfalso; first | omega | (simp only [Bool.false_eq_true, reduceCtorEq] at hg12; done) | (refine absurd hg12 ?_; with_reducible assumption) | (refine absurd ?_ hg12; with_reducible assumption))
                 all_goals (
                  first
                    | (iterate 3 refine W_guard_no rfl rfl rfl ?_)
                    | (iterate 3 refine W_guard_un rfl rfl ?_)
                    | (refine W_guard_yes rfl ?_
                       refine W_move rfl rfl ?_
                       refine W_guard_yes rfl ?_
                       first
                         | (refine W_geq_t rfl rfl ?_ rfl ?_; (focus (omega)))
                         | (refine W_geq_f rfl rfl ?_ rfl ?_; (focus (omega)))
                         | (refine W_geq rfl rfl rfl ?_)
                       refine W_guard_yes rfl ?_
                       refine W_move rfl rfl ?_)
                  first
                    | refine W_guard_lit_t rfl ?_
                    | refine W_guard_lit_f rfl ?_
                    | refine W_guard_lit_u rfl ?_
                    | refine W_guard_split_d rfl rfl rfl (fun hg13 => ?_) (fun hg13 => ?_)
                    | refine W_guard_split_n rfl rfl rfl (fun hg13 => ?_) (fun hg13 => ?_)
                    | refine W_guard_split_nb rfl rfl rfl (fun hg13 => ?_) (fun hg13 => ?_)
                    | refine W_guard_split rfl rfl rfl (fun hg13 => ?_) (fun hg13 => ?_)
                  all_goals try (exfalso; first | omega | (simp only [Bool.false_eq_true, reduceCtorEq] at hg13; done) | (refine absurd hg13 ?_; with_reducible assumption) | (refine absurd ?_ hg13; with_reducible assumption))
                  all_goals (
                   first
                     | (iterate 2 refine W_guard_no rfl rfl rfl ?_)
                     | (iterate 2 refine W_guard_un rfl rfl ?_)
                     | (refine W_guard_yes rfl ?_
                        refine W_move rfl rfl ?_
                        refine W_guard_yes rfl ?_
                        first
                          | (refine W_neq_t rfl rfl ?_ rfl ?_; (focus (omega)))
                          | (refine W_neq_f rfl rfl ?_ rfl ?_; (focus (omega)))
                          | (refine W_neq rfl rfl rfl ?_))
                   first
                     | (refine W_guard_no rfl rfl rfl ?_)
                     | (refine W_guard_un rfl rfl ?_)
                     | (refine W_guard_yes rfl ?_
                        first
                          | (refine W_pick_t rfl rfl rfl ?_)
                          | (refine W_pick_f rfl rfl rfl ?_)
                          | (refine W_pick_b rfl rfl rfl rfl ?_))
                   first
                     | (refine W_pick_t rfl rfl rfl ?_)
                     | (refine W_pick_f rfl rfl rfl ?_)
                     | (refine W_pick_b rfl rfl rfl rfl ?_)
                   refine W_assign rfl rfl ?_
                   refine W_nil ?_
                   refine N_then_k ?_
                   refine K_ret ?_
                   refine N_done1 (.inr rfl) rfl rfl ?_
                   refine ⟨_, rfl, congrArg Value.bool ?_, hp.nil⟩
                   first
                     | rfl
                     | (refine Bool.eq_iff_iff.2 ?_; simp only [Bool.not_eq_true', decide_eq_true_eq, decide_eq_false_iff_not]; omega)
                     | (refine (decide_eq_true ?_).symm; first | omega | (rw [← hcl]; first | exact Or.inl (by assumption) | exact Or.inr (Or.inl (by assumption)) | (constructor <;> intro h <;> first | exact Or.inr (Or.inr h) | (rcases h with h | h | h <;> first | exact h | contradiction))))
                     | (refine (decide_eq_false ?_).symm; first | omega | (rw [← hcl]; first | exact Or.inl (by assumption) | exact Or.inr (Or.inl (by assumption)) | (constructor <;> intro h <;> first | exact Or.inr (Or.inr h) | (rcases h with h | h | h <;> first | exact h | contradiction))))
                     | (refine decide_eq_decide.2 ?_; first | omega | (rw [← hcl]; first | exact Or.inl (by assumption) | exact Or.inr (Or.inl (by assumption)) | (constructor <;> intro h <;> first | exact Or.inr (Or.inr h) | (rcases h with h | h | h <;> first | exact h | contradiction)))))))))))

theorem rall2_spec (s : List UInt8) (hl : s.length ≤ 9000000000000000000) : PureF Tryd.prog 29 [.string ⟨s.toArray⟩, .int .i64 2] (.bool (s.all tokenB)) := by
  refine PureF.intro go29 Tryd.func29 rfl rfl fun w0 hp => ?_
  refine K_seq ?_
  refine K_region ?_
  refine W_assign rfl rfl ?_
  refine W_nil ?_
  refine N_then_k ?_
  refine K_seq ?_
  refine K_seq ?_
  refine K_region ?_
  refine W_assign rfl rfl ?_
  refine W_nil ?_
  refine N_then_k ?_
  refine K_block ?_
  refine K_loop (σ := Nat) [4, 5, 6, 7, 8, 9, 10, 11, 12, 13, 14, 15, 16, 17]
      (fun k => [(5, .int .i64 k)])
      (fun k w => Hp w0 [] [] w ∧ k ≤ s.length ∧ (s.take k).all tokenB = true)
      (fun k => s.length - k) (0) ?_ ?_ ?_
  · repeat' (first | exact sub_lst_nil (sub_nil _) | refine sub_lst rfl ?_ | (refine sub_lst_eq rfl ?_ ?_; · first | rfl | (simp; done) | (congr 1; omega)))
  · exact ⟨hp, Nat.zero_le _, by simp⟩
  · intro k w hJ
    clear hp
    obtain ⟨hp, hle, ha⟩ := hJ
    rcases Nat.lt_or_ge k (s.length) with hlt | hge
    all_goals (
     refine K_seq ?_
     refine K_seq ?_
     refine K_region ?_
     refine W_move rfl rfl ?_
     refine W_move rfl rfl ?_
     refine W_len_s Tryd.underlying9 rfl rfl ?_
     first
       | (refine W_lss_t rfl rfl ?_ rfl ?_; (focus (omega)))
       | (refine W_lss_f rfl rfl ?_ rfl ?_; (focus (omega)))
       | (refine W_lss rfl rfl rfl ?_)
     refine W_nil ?_
     refine N_then_k ?_
     first
       | refine K_cond_d rfl (fun hc1 => ?_) (fun hc1 => ?_)
       | refine K_cond_n rfl (fun hc1 => ?_) (fun hc1 => ?_)
       | refine K_cond_nb rfl (fun hc1 => ?_) (fun hc1 => ?_)
       | refine K_cond_t rfl (fun hc1 => ?_) (fun hc1 => ?_)
     · try (exfalso; first | omega | (simp only [Bool.false_eq_true, reduceCtorEq] at hc1; done) | (refine absurd hc1 ?_; with_reducible assumption) | (refine absurd ?_ hc1; with_reducible assumption))
       all_goals (
        refine K_skip ?_
        refine N_then_k ?_
        refine K_seq ?_
        refine K_block ?_
        refine K_seq ?_
        refine K_region ?_
        obtain ⟨c, hc⟩ : ∃ c, s[k]? = some c := ⟨_, List.getElem?_eq_getElem hlt⟩
        refine W_move rfl rfl ?_
        refine W_move rfl rfl ?_
        refine W_index_s Tryd.underlying9 rfl rfl ?_ (by first | with_reducible assumption | assumption | exact rfl | exact idx_getD (by first | omega | (simp; omega))) rfl ?_
        (focus (omega))
        refine W_move rfl rfl ?_
        refine W_pcall hp rfl (class2_spec c) rfl ?_
        clear hp; intro w hp
        first
          | (refine W_not_t rfl rfl ?_)
          | (refine W_not_f rfl rfl ?_)
          | (refine W_not rfl rfl ?_)
        refine W_nil ?_
        refine N_then_k ?_
        first
          | refine K_cond_d rfl (fun hc2 => ?_) (fun hc2 => ?_)
          | refine K_cond_n rfl (fun hc2 => ?_) (fun hc2 => ?_)
          | refine K_cond_nb rfl (fun hc2 => ?_) (fun hc2 => ?_)
          | refine K_cond_t rfl (fun hc2 => ?_) (fun hc2 => ?_)
        · try (exfalso; first | omega | (simp only [Bool.false_eq_true, reduceCtorEq] at hc2; done) | (refine absurd hc2 ?_; with_reducible assumption) | (refine absurd ?_ hc2; with_reducible assumption))
          all_goals (
           refine K_seq ?_
           refine K_region ?_
           refine W_assign rfl rfl ?_
           refine W_nil ?_
           refine N_then_k ?_
           refine K_ret ?_
           refine N_block_ret ?_
           refine N_then_ret ?_
           refine N_then_ret ?_
           refine N_block_ret ?_
           refine N_then_ret ?_
           refine N_done1 (.inr rfl) rfl rfl ?_
           refine ⟨_, rfl, congrArg Value.bool ?_, hp.nil⟩
           first
             | (rw [all_not hc (decide_eq_false (by assumption))])
             | (rw [List.take_of_length_le ‹s.length ≤ k›] at ha; rw [ha]))
        · try (exfalso; first | omega | (simp only [Bool.false_eq_true, reduceCtorEq] at hc2; done) | (refine absurd hc2 ?_; with_reducible assumption) | (refine absurd ?_ hc2; with_reducible assumption))
          all_goals (
           refine K_skip ?_
           refine N_block_normal ?_
           refine N_then_k ?_
           refine K_region ?_
           refine W_move rfl rfl ?_
           first
             | (refine W_add rfl rfl (wr_i64 ?_) rfl ?_; (focus (omega)))
             | (refine W_add rfl rfl rfl rfl ?_)
           refine W_assign rfl rfl ?_
           refine W_nil ?_
           refine N_again (k + 1) (sub_end ?_ ?_) ?_ ?_
           · repeat' (first | exact sub_lst_nil (sub_nil _) | refine sub_lst rfl ?_ | (refine sub_lst_eq rfl ?_ ?_; · first | rfl | (simp; done) | (congr 1; omega)))
           · repeat' (first | exact sub_refl _ | exact sub_strip _ _ | refine sub_s_cons rfl ?_ | refine sub_s_lst rfl ?_ | refine sub_s_strip rfl ?_)
           · refine ⟨hp, hlt, ?_⟩
             rw [all_take hc, ha]; exact (Bool.true_and _).trans (decide_eq_true (by assumption))
           · omega))
     · try (exfalso; first | omega | (simp only [Bool.false_eq_true, reduceCtorEq] at hc1; done) | (refine absurd hc1 ?_; with_reducible assumption) | (refine absurd ?_ hc1; with_reducible assumption))
       all_goals (
        refine K_exit ?_
        refine N_then_exit ?_
        refine N_then_exit ?_
        refine N_block_exit ?_
        refine N_then_k ?_
        refine K_seq ?_
        refine K_region ?_
        refine W_assign rfl rfl ?_
        refine W_nil ?_
        refine N_then_k ?_
        refine K_ret ?_
        refine N_done1 (.inr rfl) rfl rfl ?_
        refine ⟨_, rfl, congrArg Value.bool ?_, hp.nil⟩
        first
          | (rw [all_not hc (decide_eq_false (by assumption))])
          | (rw [List.take_of_length_le ‹s.length ≤ k›] at ha; rw [ha])))

theorem risToken_spec (s : List UInt8) (hl : s.length ≤ 9000000000000000000) : PureF Tryd.prog 20 [.string ⟨s.toArray⟩] (.bool (isToken s)) := by
  refine PureF.intro go20 Tryd.func20 rfl rfl fun w0 hp => ?_
  refine K_seq ?_
  refine K_region ?_
  refine W_assign rfl rfl ?_
  refine W_nil ?_
  refine N_then_k ?_
  refine K_seq ?_
  refine K_region ?_
  refine W_move rfl rfl ?_
  refine W_len_s Tryd.underlying9 rfl rfl ?_
  first
    | (refine W_gtr_t rfl rfl ?_ rfl ?_; (focus (omega)))
    | (refine W_gtr_f rfl rfl ?_ rfl ?_; (focus (omega)))
    | (refine W_gtr rfl rfl rfl ?_)
  refine W_move rfl rfl ?_
  first
    | refine W_guard_lit_t rfl ?_
    | refine W_guard_lit_f rfl ?_
    | refine W_guard_lit_u rfl ?_
    | refine W_guard_split_d rfl rfl rfl (fun hg1 => ?_) (fun hg1 => ?_)
    | refine W_guard_split_n rfl rfl rfl (fun hg1 => ?_) (fun hg1 => ?_)
    | refine W_guard_split_nb rfl rfl rfl (fun hg1 => ?_) (fun hg1 => ?_)
    | refine W_guard_split rfl rfl rfl (fun hg1 => ?_) (fun hg1 => ?_)
  all_goals try (exfalso; first | omega | (simp only [Bool.false_eq_true, reduceCtorEq] at hg1; done) | (refine absurd hg1 ?_; with_reducible assumption) | (refine absurd ?_ hg1; with_reducible assumption))
  all_goals (
   first
     | (iterate 2 refine W_guard_no rfl rfl rfl ?_)
     | (iterate 2 refine W_guard_un rfl rfl ?_)
     | (refine W_guard_yes rfl ?_
        refine W_move rfl rfl ?_
        refine W_guard_yes rfl ?_
        refine W_pcall hp rfl (rall2_spec s hl) rfl ?_
        clear hp; intro w hp)
   first
     | (refine W_pick_t rfl rfl rfl ?_)
     | (refine W_pick_f rfl rfl rfl ?_)
     | (refine W_pick_b rfl rfl rfl rfl ?_)
   refine W_assign rfl rfl ?_
   refine W_nil ?_
   refine N_then_k ?_
   refine K_ret ?_
   refine N_done1 (.inr rfl) rfl rfl ?_
   refine ⟨_, rfl, congrArg Value.bool ?_, hp.nil⟩
   cases s <;> simp_all [isToken])

end Go.Proofs.YtcanebnegfnhdaaDoor
