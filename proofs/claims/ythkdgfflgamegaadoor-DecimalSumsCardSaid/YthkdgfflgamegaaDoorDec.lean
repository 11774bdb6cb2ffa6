/-
  Package decimal, walked: reading numbers.
-/
import Derived.Test.YthkdgfflgamegaaDoorFlt
import Derived.Test.YthkdgfflgamegaaDoorOct
namespace Go.Proofs.YthkdgfflgamegaaDoor
open Go.Sx Go.RowKit
set_option linter.unusedVariables false
set_option linter.unusedSimpArgs false
set_option maxRecDepth 100000

/-! ### Package decimal: the plain sense -/
/-- The value of a digit to a base (10 or 16), or -1. -/
def dig (b : Int) (c : UInt8) : Int := if b = 10 then (if DigitP c.toNat then (c.toNat : Int) - 48 else -1) else hexI c.toNat
theorem dig_10 (c : UInt8) : dig 10 c = if DigitP c.toNat then (c.toNat : Int) - 48 else -1 := rfl
theorem dig_16 (c : UInt8) : dig 16 c = hexI c.toNat := rfl
theorem dig_range (b : Int) (c : UInt8) : -1 ≤ dig b c ∧ dig b c ≤ 15 := by
  have := hexI_range c.toNat
  unfold dig; split
  · split <;> omega
  · exact this
theorem dig10_hex : ∀ c : UInt8, dig 10 c = if hexI c.toNat ≥ 10 ∨ ¬ DigitP c.toNat then -1 else hexI c.toNat := u8_all (by decide +kernel)
def numV (b : Int) (s : List UInt8) : Int := s.foldl (fun n c => n * b + dig b c) 0
theorem numV_take {b : Int} {s : List UInt8} {k : Nat} {c : UInt8} (h : s[k]? = some c) : numV b (s.take (k + 1)) = numV b (s.take k) * b + dig b c := by
  rw [List.take_add_one, h]; simp [numV]
/-- The first byte that is no digit, or -1. -/
def badI (b : Int) : List UInt8 → Int
  | [] => -1
  | c :: s => if dig b c < 0 then 0 else if badI b s < 0 then -1 else badI b s + 1
theorem badI_none {b : Int} {s : List UInt8} (h : ∀ c ∈ s, 0 ≤ dig b c) : badI b s = -1 := by
  induction s with
  | nil => rfl
  | cons c s ih => rw [badI, if_neg (by have := h c List.mem_cons_self; omega), ih (fun x hx => h x (List.mem_cons_of_mem _ hx))]; rfl
theorem badI_found {b : Int} : ∀ {s : List UInt8} {k : Nat} {c : UInt8}, s[k]? = some c → (∀ x ∈ s.take k, 0 ≤ dig b x) → dig b c < 0 → badI b s = k
  | [], _, _, h, _, _ => by simp at h
  | x :: s, 0, c, h, _, hc => by simp at h; subst h; simp [badI, hc]
  | x :: s, k + 1, c, h, hn, hc => by
    have h1 : 0 ≤ dig b x := hn x (by simp)
    have ih := badI_found (b := b) (s := s) (k := k) (c := c) (by simpa using h) (fun y hy => hn y (by simp [hy])) hc
    rw [badI, if_neg (by omega), ih, if_neg (by omega)]; omega
theorem take_snoc_ok {b : Int} {s : List UInt8} {k : Nat} {c : UInt8} (h : s[k]? = some c) (hn : ∀ x ∈ s.take k, 0 ≤ dig b x) (hc : 0 ≤ dig b c) : ∀ x ∈ s.take (k + 1), 0 ≤ dig b x := by
  intro x hx
  rw [List.take_add_one, h] at hx
  rcases List.mem_append.1 hx with hx | hx
  · exact hn x hx
  · simp at hx; subst hx; exact hc
/-- What is read: the number, the status (0: none), the offset. -/
def readR (b most : Int) (s : List UInt8) : Int × Int × Int :=
  if s = [] then (0, 400, 0) else if 0 ≤ badI b s then (0, 400, badI b s) else if most < numV b s then (0, 413, 0) else (numV b s, 0, 0)
theorem readR_nil (b most : Int) : readR b most [] = (0, 400, 0) := rfl
theorem readR_bad {b most : Int} {s : List UInt8} {k : Nat} {c : UInt8} (h : s[k]? = some c) (hn : ∀ x ∈ s.take k, 0 ≤ dig b x) (hc : dig b c < 0) : readR b most s = (0, 400, (k : Int)) := by
  have hne : s ≠ [] := fun e => by subst e; simp at h
  have e := badI_found h hn hc
  unfold readR
  rw [if_neg hne, e, if_pos (by omega)]
theorem readR_over {b most : Int} {s : List UInt8} (hne : s ≠ []) (hn : ∀ x ∈ s, 0 ≤ dig b x) (h : most < numV b s) : readR b most s = (0, 413, 0) := by
  unfold readR
  rw [if_neg hne, badI_none hn, if_neg (by decide), if_pos h]
theorem readR_ok {b most : Int} {s : List UInt8} (hne : s ≠ []) (hn : ∀ x ∈ s, 0 ≤ dig b x) (h : ¬ most < numV b s) : readR b most s = (numV b s, 0, 0) := by
  unfold readR
  rw [if_neg hne, badI_none hn, if_neg (by decide), if_neg h]
def errV (st at_ : Int) : Value := if st = 0 then .nilIface else fltV st at_
def readV (b most : Int) (s : List UInt8) : Value := .tuple #[.int .i64 (readR b most s).1, errV (readR b most s).2.1 (readR b most s).2.2]
theorem readV_of {b most : Int} {s : List UInt8} {n st at_ : Int} (h : readR b most s = (n, st, at_)) : readV b most s = .tuple #[.int .i64 n, errV st at_] := by unfold readV; rw [h]

theorem parse1_spec (c : UInt8) : PureF Tryd.prog 16 [.int .u8 (c.toNat : Int)] (.tuple #[.int .i64 ((c.toNat : Int) - 48), .bool (decide (0 ≤ dig 10 c))]) := by
  have hu := c.toNat_lt
  refine PureF.intro go16 Tryd.func16 rfl rfl fun w0 hp => ?_
  refine K_seq ?_
  refine K_region ?_
  refine W_assign rfl rfl ?_
  refine W_assign rfl rfl ?_
  refine W_nil ?_
  refine N_then_k ?_
  refine K_seq ?_
  refine K_region ?_
  refine W_move rfl rfl ?_
  first
    | (refine W_conv_i Tryd.underlying5 Tryd.underlying3 rfl (wr_i64 ?_) rfl ?_; (focus (first | omega | (have := u8_lt ‹_›; omega))))
    | (refine W_conv_i Tryd.underlying5 Tryd.underlying3 rfl rfl rfl ?_)
  first
    | (refine W_sub rfl rfl (wr_i64 ?_) rfl ?_; (focus (omega)))
    | (refine W_sub rfl rfl rfl rfl ?_)
  refine W_move rfl rfl ?_
  refine W_pcall hp rfl (digit_spec c) rfl ?_
  clear hp; intro w hp
  refine W_assign rfl rfl ?_
  refine W_assign rfl rfl ?_
  refine W_nil ?_
  refine N_then_k ?_
  refine K_ret ?_
  refine N_done2 (.inr rfl) rfl rfl rfl ?_
  refine ⟨_, rfl, ?_, hp.nil⟩
  have e : decide (DigitP c.toNat) = decide (0 ≤ dig 10 c) := by
    rw [dig_10]; split
    · rename_i h; rw [decide_eq_true h, decide_eq_true (by omega)]
    · rename_i h; rw [decide_eq_false h]; rfl
  rw [e]

theorem number10 (s : List UInt8) (most : Int) (fv : Value) (vv : UInt8 → Int) (hl : s.length ≤ 1000000) (hm0 : 0 ≤ most) (hm1 : most ≤ 4611686018427387904) (hf : ∀ c : UInt8, PureV Tryd.prog fv [.int .u8 (c.toNat : Int)] (.tuple #[.int .i64 (vv c), .bool (decide (0 ≤ dig 10 c))])) (hvv : ∀ c, 0 ≤ dig 10 c → vv c = dig 10 c) : PureF Tryd.prog 15 [.string ⟨s.toArray⟩, .int .i64 10, .int .i64 most, fv] (readV 10 most s) := by
  refine PureF.intro go15 Tryd.func15 rfl rfl fun w0 hp => ?_
  refine K_seq ?_
  refine K_region ?_
  refine W_assign rfl rfl ?_
  refine W_assign rfl rfl ?_
  refine W_nil ?_
  refine N_then_k ?_
  refine K_seq ?_
  refine K_seq ?_
  refine K_region ?_
  refine W_move rfl rfl ?_
  rcases Decidable.em (s = []) with hne | hne
  all_goals (
   first
     | (refine W_seql_t rfl rfl ?_ rfl ?_; (focus (first | rfl | assumption)))
     | (refine W_seql_f rfl rfl ?_ rfl ?_; (focus (first | assumption | decide | exact List.cons_ne_nil _ _)))
     | (refine W_seql rfl rfl rfl ?_)
   refine W_nil ?_
   refine N_then_k ?_
   first
     | refine K_cond_d rfl (fun hc1 => ?_) (fun hc1 => ?_)
     | refine K_cond_n rfl (fun hc1 => ?_) (fun hc1 => ?_)
     | refine K_cond_nb rfl (fun hc1 => ?_) (fun hc1 => ?_)
     | refine K_cond_t rfl (fun hc1 => ?_) (fun hc1 => ?_)
   · try (exfalso; first | omega | (simp only [Bool.false_eq_true, reduceCtorEq] at hc1; done) | (refine absurd hc1 ?_; with_reducible assumption) | (refine absurd ?_ hc1; with_reducible assumption))
     all_goals (
      refine K_seq ?_
      refine K_region ?_
      refine W_pcall hp rfl (fault_new 400 0) rfl ?_
      clear hp; intro w hp
      refine W_assign rfl rfl ?_
      refine W_assign rfl rfl ?_
      refine W_nil ?_
      refine N_then_k ?_
      refine K_ret ?_
      refine N_then_ret ?_
      refine N_done2 (.inr rfl) rfl rfl rfl ?_
      refine ⟨_, rfl, ?_, hp.nil⟩
      first
        | (rw [hne]; rfl)
        | (rw [readV_of (readR_bad hc hds (by omega))]; rfl)
        | (rw [List.take_of_length_le hge] at hds; rw [List.take_of_length_le hge] at *
           first
             | (rw [readV_of (readR_over hne hds (by assumption))]; rfl)
             | (rw [readV_of (readR_ok hne hds (by assumption))]; rw [hnv (by omega)]; rfl)))
   · try (exfalso; first | omega | (simp only [Bool.false_eq_true, reduceCtorEq] at hc1; done) | (refine absurd hc1 ?_; with_reducible assumption) | (refine absurd ?_ hc1; with_reducible assumption))
     all_goals (
      refine K_skip ?_
      refine N_then_k ?_
      refine K_seq ?_
      refine K_region ?_
      refine W_assign rfl rfl ?_
      refine W_assign rfl rfl ?_
      refine W_nil ?_
      refine N_then_k ?_
      refine K_seq ?_
      refine K_seq ?_
      refine K_region ?_
      refine W_move rfl rfl ?_
      refine W_len_s Tryd.underlying9 rfl rfl ?_
      refine W_move rfl rfl ?_
      refine W_nil ?_
      refine N_then_k ?_
      refine K_block ?_
      refine K_loop (σ := Nat × Int) [8, 9, 10, 11, 12, 13, 14, 20, 21, 22, 23, 24, 25, 26, 27, 28, 29, 30, 31, 32, 33, 34, 35, 36, 37, 38, 39, 40, 41, 42, 43, 44, 45, 46, 47, 48, 49, 50, 51, 52, 53, 54, 55]
          (fun q => [(20, .int .i64 q.1), (10, .int .i64 q.2), (11, .bool (decide (most < numV 10 (s.take q.1))))])
          (fun q w => Hp w0 [] [] w ∧ q.1 ≤ s.length ∧ (∀ x ∈ s.take q.1, 0 ≤ dig 10 x) ∧ 0 ≤ q.2 ∧ 0 ≤ numV 10 (s.take q.1) ∧ (numV 10 (s.take q.1) ≤ most → q.2 = numV 10 (s.take q.1)))
          (fun q => s.length - q.1) ((0, 0)) ?_ ?_ ?_
      · repeat' (first | exact sub_lst_nil (sub_nil _) | refine sub_lst rfl ?_ | (refine sub_lst_eq rfl ?_ ?_; · first | rfl | (refine congrArg Value.bool (decide_eq_false ?_).symm; show ¬ most < numV _ []; show ¬ most < 0; omega) | (simp; done) | (congr 1; omega)))
      · exact ⟨hp, Nat.zero_le _, by simp, Int.le_refl _, Int.le_refl _, fun _ => rfl⟩
      · intro ⟨k, n⟩ w hJ
        clear hp
        obtain ⟨hp, hle, hds, hn0, hN0, hnv⟩ := hJ
        simp only at hle hds hn0 hN0 hnv
        rcases Nat.lt_or_ge k s.length with hlt | hge
        all_goals (
         refine K_seq ?_
         refine K_region ?_
         first
           | (refine W_lss_t rfl rfl ?_ rfl ?_; (focus (omega)))
           | (refine W_lss_f rfl rfl ?_ rfl ?_; (focus (omega)))
           | (refine W_lss rfl rfl rfl ?_)
         refine W_nil ?_
         refine N_then_k ?_
         refine K_seq ?_
         first
           | refine K_cond_d rfl (fun hc2 => ?_) (fun hc2 => ?_)
           | refine K_cond_n rfl (fun hc2 => ?_) (fun hc2 => ?_)
           | refine K_cond_nb rfl (fun hc2 => ?_) (fun hc2 => ?_)
           | refine K_cond_t rfl (fun hc2 => ?_) (fun hc2 => ?_)
         · try (exfalso; first | omega | (simp only [Bool.false_eq_true, reduceCtorEq] at hc2; done) | (refine absurd hc2 ?_; with_reducible assumption) | (refine absurd ?_ hc2; with_reducible assumption))
           all_goals (
            refine K_skip ?_
            refine N_then_k ?_
            refine K_seq ?_
            refine K_block ?_
            refine K_seq ?_
            refine K_region ?_
            refine W_move rfl rfl ?_
            refine W_assign rfl rfl ?_
            refine W_nil ?_
            refine N_then_k ?_
            refine K_seq ?_
            refine K_region ?_
            obtain ⟨c, hc⟩ : ∃ c, s[k]? = some c := ⟨_, List.getElem?_eq_getElem hlt⟩
            have hu := c.toNat_lt
            have hN := numV_take (b := 10) hc
            have hdr := dig_range 10 c
            refine W_move rfl rfl ?_
            refine W_move rfl rfl ?_
            refine W_move rfl rfl ?_
            refine W_index_s Tryd.underlying9 rfl rfl ?_ (by first | with_reducible assumption | assumption | exact rfl | exact idx_getD (by first | omega | (simp; omega))) rfl ?_
            (focus (omega))
            refine W_vcall hp rfl rfl (hf c) rfl ?_
            clear hp; intro w hp
            refine W_move rfl rfl ?_
            refine W_extract rfl rfl rfl ?_
            refine W_extract rfl rfl rfl ?_
            refine W_assign rfl rfl ?_
            refine W_assign rfl rfl ?_
            refine W_nil ?_
            refine N_then_k ?_
            refine K_seq ?_
            refine K_seq ?_
            refine K_region ?_
            refine W_move rfl rfl ?_
            first
              | (refine W_not_t rfl rfl ?_)
              | (refine W_not_f rfl rfl ?_)
              | (refine W_not rfl rfl ?_)
            refine W_nil ?_
            refine N_then_k ?_
            first
              | refine K_cond_d rfl (fun hc3 => ?_) (fun hc3 => ?_)
              | refine K_cond_n rfl (fun hc3 => ?_) (fun hc3 => ?_)
              | refine K_cond_nb rfl (fun hc3 => ?_) (fun hc3 => ?_)
              | refine K_cond_t rfl (fun hc3 => ?_) (fun hc3 => ?_)
            · try (exfalso; first | omega | (simp only [Bool.false_eq_true, reduceCtorEq] at hc3; done) | (refine absurd hc3 ?_; with_reducible assumption) | (refine absurd ?_ hc3; with_reducible assumption))
              all_goals (
               refine K_seq ?_
               refine K_region ?_
               refine W_move rfl rfl ?_
               refine W_pcall hp rfl (fault_new 400 k) rfl ?_
               clear hp; intro w hp
               refine W_assign rfl rfl ?_
               refine W_assign rfl rfl ?_
               refine W_nil ?_
               refine N_then_k ?_
               refine K_ret ?_
               refine N_then_ret ?_
               refine N_block_ret ?_
               refine N_then_ret ?_
               refine N_then_ret ?_
               refine N_block_ret ?_
               refine N_then_ret ?_
               refine N_done2 (.inr rfl) rfl rfl rfl ?_
               refine ⟨_, rfl, ?_, hp.nil⟩
               first
                 | (rw [hne]; rfl)
                 | (rw [readV_of (readR_bad hc hds (by omega))]; rfl)
                 | (rw [List.take_of_length_le hge] at hds; rw [List.take_of_length_le hge] at *
                    first
                      | (rw [readV_of (readR_over hne hds (by assumption))]; rfl)
                      | (rw [readV_of (readR_ok hne hds (by assumption))]; rw [hnv (by omega)]; rfl)))
            · try (exfalso; first | omega | (simp only [Bool.false_eq_true, reduceCtorEq] at hc3; done) | (refine absurd hc3 ?_; with_reducible assumption) | (refine absurd ?_ hc3; with_reducible assumption))
              all_goals (
               refine K_skip ?_
               refine N_then_k ?_
               refine K_seq ?_
               refine K_seq ?_
               refine K_region ?_
               have hve := hvv c (by assumption)
               rcases Int.lt_or_le most (numV 10 (s.take k)) with hov | hov
               all_goals rcases Int.lt_or_le most (dig 10 c) with hdm | hdm
               all_goals first | rw [decide_eq_true hov] | (rw [decide_eq_false (show ¬ most < numV 10 (s.take k) by omega)]; obtain rfl := hnv hov)
               all_goals (
                refine W_move rfl rfl ?_
                refine W_move rfl rfl ?_
                first
                  | refine W_guard_lit_t rfl ?_
                  | refine W_guard_lit_f rfl ?_
                  | refine W_guard_lit_u rfl ?_
                  | refine W_guard_split_d rfl rfl rfl (fun hg4 => ?_) (fun hg4 => ?_)
                  | refine W_guard_split_n rfl rfl rfl (fun hg4 => ?_) (fun hg4 => ?_)
                  | refine W_guard_split_nb rfl rfl rfl (fun hg4 => ?_) (fun hg4 => ?_)
                  | refine W_guard_split rfl rfl rfl (fun hg4 => ?_) (fun hg4 => ?_)
                all_goals try (exfalso; first | omega | (simp only [Bool.false_eq_true, reduceCtorEq] at hg4; done) | (refine absurd hg4 ?_; with_reducible assumption) | (refine absurd ?_ hg4; with_reducible assumption))
                all_goals (
                 first
                   | (iterate 7 refine W_guard_no rfl rfl rfl ?_)
                   | (iterate 7 refine W_guard_un rfl rfl ?_)
                   | (refine W_guard_yes rfl ?_
                      refine W_move rfl rfl ?_
                      refine W_guard_yes rfl ?_
                      refine W_move rfl rfl ?_
                      refine W_guard_yes rfl ?_
                      refine W_move rfl rfl ?_
                      refine W_guard_yes rfl ?_
                      first
                        | (refine W_sub rfl rfl (wr_i64 ?_) rfl ?_; (focus (omega)))
                        | (refine W_sub rfl rfl rfl rfl ?_)
                      refine W_guard_yes rfl ?_
                      refine W_move rfl rfl ?_
                      refine W_guard_yes rfl ?_
                      first
                        | (refine W_quo rfl rfl ?_ (quo_nn ?_ (wr_i64 ?_)) rfl ?_; (focus (omega)); (focus (omega)); (focus (omega)))
                        | (refine W_quo rfl rfl ?_ rfl rfl ?_; (focus (omega)))
                      refine W_guard_yes rfl ?_
                      first
                        | (refine W_gtr_t rfl rfl ?_ rfl ?_; (focus (omega)))
                        | (refine W_gtr_f rfl rfl ?_ rfl ?_; (focus (omega)))
                        | (refine W_gtr rfl rfl rfl ?_))
                 first
                   | (refine W_pick_t rfl rfl rfl ?_)
                   | (refine W_pick_f rfl rfl rfl ?_)
                   | (refine W_pick_b rfl rfl rfl rfl ?_)
                 refine W_move rfl rfl ?_
                 first
                   | refine W_guard_lit_t rfl ?_
                   | refine W_guard_lit_f rfl ?_
                   | refine W_guard_lit_u rfl ?_
                   | refine W_guard_split_d rfl rfl rfl (fun hg5 => ?_) (fun hg5 => ?_)
                   | refine W_guard_split_n rfl rfl rfl (fun hg5 => ?_) (fun hg5 => ?_)
                   | refine W_guard_split_nb rfl rfl rfl (fun hg5 => ?_) (fun hg5 => ?_)
                   | refine W_guard_split rfl rfl rfl (fun hg5 => ?_) (fun hg5 => ?_)
                 all_goals try (exfalso; first | omega | (simp only [Bool.false_eq_true, reduceCtorEq] at hg5; done) | (refine absurd hg5 ?_; with_reducible assumption) | (refine absurd ?_ hg5; with_reducible assumption))
                 all_goals (
                  first
                    | (iterate 3 refine W_guard_no rfl rfl rfl ?_)
                    | (iterate 3 refine W_guard_un rfl rfl ?_)
                    | (refine W_guard_yes rfl ?_
                       refine W_move rfl rfl ?_
                       refine W_guard_yes rfl ?_
                       refine W_move rfl rfl ?_
                       refine W_guard_yes rfl ?_
                       first
                         | (refine W_gtr_t rfl rfl ?_ rfl ?_; (focus (omega)))
                         | (refine W_gtr_f rfl rfl ?_ rfl ?_; (focus (omega)))
                         | (refine W_gtr rfl rfl rfl ?_))
                  first
                    | (refine W_pick_t rfl rfl rfl ?_)
                    | (refine W_pick_f rfl rfl rfl ?_)
                    | (refine W_pick_b rfl rfl rfl rfl ?_)
                  refine W_nil ?_
                  refine N_then_k ?_
                  first
                    | refine K_cond_d rfl (fun hc6 => ?_) (fun hc6 => ?_)
                    | refine K_cond_n rfl (fun hc6 => ?_) (fun hc6 => ?_)
                    | refine K_cond_nb rfl (fun hc6 => ?_) (fun hc6 => ?_)
                    | refine K_cond_t rfl (fun hc6 => ?_) (fun hc6 => ?_)
                  · try (exfalso; first | omega | (simp only [Bool.false_eq_true, reduceCtorEq] at hc6; done) | (refine absurd hc6 ?_; with_reducible assumption) | (refine absurd ?_ hc6; with_reducible assumption))
                    all_goals (
                     refine K_seq ?_
                     refine K_region ?_
                     refine W_assign rfl rfl ?_
                     refine W_nil ?_
                     refine N_then_k ?_
                     refine K_exit ?_
                     refine N_then_exit ?_
                     refine N_block_exit ?_
                     refine N_then_k ?_
                     refine K_region ?_
                     first
                       | (refine W_add rfl rfl (wr_i64 ?_) rfl ?_; (focus (omega)))
                       | (refine W_add rfl rfl rfl rfl ?_)
                     refine W_move rfl rfl ?_
                     refine W_nil ?_
                     first
                       | (refine N_again (k + 1, numV 10 (s.take k) * 10 + dig 10 c) (sub_end ?_ ?_) ⟨hp, hlt, take_snoc_ok hc hds (by assumption), ?_, ?_, ?_⟩ ?_
                          · repeat' (first | exact sub_lst_nil (sub_nil _) | refine sub_lst rfl ?_ | (refine sub_lst_eq rfl ?_ ?_; · first | (refine congrArg (Value.int .i64) ?_; dsimp only; omega) | (refine congrArg Value.bool (decide_eq_false ?_).symm; dsimp only; omega)))
                          · repeat' (first | exact sub_refl _ | exact sub_strip _ _ | refine sub_s_cons rfl ?_ | refine sub_s_lst rfl ?_ | refine sub_s_strip rfl ?_)
                          · dsimp only; omega
                          · dsimp only; omega
                          · intro _; exact hN.symm
                          · show _ < _; simp only; omega)
                       | (refine N_again (k + 1, _) (sub_end ?_ ?_) ⟨hp, hlt, take_snoc_ok hc hds (by assumption), hn0, ?_, ?_⟩ ?_
                          · repeat' (first | exact sub_lst_nil (sub_nil _) | refine sub_lst rfl ?_ | (refine sub_lst_eq rfl ?_ ?_; · (refine congrArg Value.bool (decide_eq_true ?_).symm; dsimp only; omega)))
                          · repeat' (first | exact sub_refl _ | exact sub_strip _ _ | refine sub_s_cons rfl ?_ | refine sub_s_lst rfl ?_ | refine sub_s_strip rfl ?_)
                          · dsimp only; omega
                          · intro h; exfalso; dsimp only at h; omega
                          · show _ < _; simp only; omega))
                  · try (exfalso; first | omega | (simp only [Bool.false_eq_true, reduceCtorEq] at hc6; done) | (refine absurd hc6 ?_; with_reducible assumption) | (refine absurd ?_ hc6; with_reducible assumption))
                    all_goals (
                     refine K_skip ?_
                     refine N_then_k ?_
                     refine K_region ?_
                     refine W_move rfl rfl ?_
                     refine W_move rfl rfl ?_
                     first
                       | (refine W_mul rfl rfl (wr_i64 ?_) rfl ?_; (focus (omega)))
                       | (refine W_mul rfl rfl rfl rfl ?_)
                     refine W_move rfl rfl ?_
                     first
                       | (refine W_add rfl rfl (wr_i64 ?_) rfl ?_; (focus (omega)))
                       | (refine W_add rfl rfl rfl rfl ?_)
                     refine W_assign rfl rfl ?_
                     refine W_nil ?_
                     refine N_block_normal ?_
                     refine N_then_k ?_
                     refine K_region ?_
                     first
                       | (refine W_add rfl rfl (wr_i64 ?_) rfl ?_; (focus (omega)))
                       | (refine W_add rfl rfl rfl rfl ?_)
                     refine W_move rfl rfl ?_
                     refine W_nil ?_
                     first
                       | (refine N_again (k + 1, numV 10 (s.take k) * 10 + dig 10 c) (sub_end ?_ ?_) ⟨hp, hlt, take_snoc_ok hc hds (by assumption), ?_, ?_, ?_⟩ ?_
                          · repeat' (first | exact sub_lst_nil (sub_nil _) | refine sub_lst rfl ?_ | (refine sub_lst_eq rfl ?_ ?_; · first | (refine congrArg (Value.int .i64) ?_; dsimp only; omega) | (refine congrArg Value.bool (decide_eq_false ?_).symm; dsimp only; omega)))
                          · repeat' (first | exact sub_refl _ | exact sub_strip _ _ | refine sub_s_cons rfl ?_ | refine sub_s_lst rfl ?_ | refine sub_s_strip rfl ?_)
                          · dsimp only; omega
                          · dsimp only; omega
                          · intro _; exact hN.symm
                          · show _ < _; simp only; omega)
                       | (refine N_again (k + 1, _) (sub_end ?_ ?_) ⟨hp, hlt, take_snoc_ok hc hds (by assumption), hn0, ?_, ?_⟩ ?_
                          · repeat' (first | exact sub_lst_nil (sub_nil _) | refine sub_lst rfl ?_ | (refine sub_lst_eq rfl ?_ ?_; · (refine congrArg Value.bool (decide_eq_true ?_).symm; dsimp only; omega)))
                          · repeat' (first | exact sub_refl _ | exact sub_strip _ _ | refine sub_s_cons rfl ?_ | refine sub_s_lst rfl ?_ | refine sub_s_strip rfl ?_)
                          · dsimp only; omega
                          · intro h; exfalso; dsimp only at h; omega
                          · show _ < _; simp only; omega)))))))
         · try (exfalso; first | omega | (simp only [Bool.false_eq_true, reduceCtorEq] at hc2; done) | (refine absurd hc2 ?_; with_reducible assumption) | (refine absurd ?_ hc2; with_reducible assumption))
           all_goals (
            refine K_exit ?_
            refine N_then_exit ?_
            refine N_then_exit ?_
            refine N_block_exit ?_
            refine N_then_k ?_
            refine K_seq ?_
            refine K_seq ?_
            refine K_region ?_
            refine W_move rfl rfl ?_
            refine W_nil ?_
            refine N_then_k ?_
            first
              | refine K_cond_d rfl (fun hc7 => ?_) (fun hc7 => ?_)
              | refine K_cond_n rfl (fun hc7 => ?_) (fun hc7 => ?_)
              | refine K_cond_nb rfl (fun hc7 => ?_) (fun hc7 => ?_)
              | refine K_cond_t rfl (fun hc7 => ?_) (fun hc7 => ?_)
            · try (exfalso; first | omega | (simp only [Bool.false_eq_true, reduceCtorEq] at hc7; done) | (refine absurd hc7 ?_; with_reducible assumption) | (refine absurd ?_ hc7; with_reducible assumption))
              all_goals (
               refine K_seq ?_
               refine K_region ?_
               refine W_pcall hp rfl (fault_new 413 0) rfl ?_
               clear hp; intro w hp
               refine W_assign rfl rfl ?_
               refine W_assign rfl rfl ?_
               refine W_nil ?_
               refine N_then_k ?_
               refine K_ret ?_
               refine N_then_ret ?_
               refine N_done2 (.inr rfl) rfl rfl rfl ?_
               refine ⟨_, rfl, ?_, hp.nil⟩
               first
                 | (rw [hne]; rfl)
                 | (rw [readV_of (readR_bad hc hds (by omega))]; rfl)
                 | (rw [List.take_of_length_le hge] at hds; rw [List.take_of_length_le hge] at *
                    first
                      | (rw [readV_of (readR_over hne hds (by assumption))]; rfl)
                      | (rw [readV_of (readR_ok hne hds (by assumption))]; rw [hnv (by omega)]; rfl)))
            · try (exfalso; first | omega | (simp only [Bool.false_eq_true, reduceCtorEq] at hc7; done) | (refine absurd hc7 ?_; with_reducible assumption) | (refine absurd ?_ hc7; with_reducible assumption))
              all_goals (
               refine K_skip ?_
               refine N_then_k ?_
               refine K_seq ?_
               refine K_region ?_
               refine W_move rfl rfl ?_
               refine W_assign rfl rfl ?_
               refine W_assign rfl rfl ?_
               refine W_nil ?_
               refine N_then_k ?_
               refine K_ret ?_
               refine N_done2 (.inr rfl) rfl rfl rfl ?_
               refine ⟨_, rfl, ?_, hp.nil⟩
               first
                 | (rw [hne]; rfl)
                 | (rw [readV_of (readR_bad hc hds (by omega))]; rfl)
                 | (rw [List.take_of_length_le hge] at hds; rw [List.take_of_length_le hge] at *
                    first
                      | (rw [readV_of (readR_over hne hds (by assumption))]; rfl)
                      | (rw [readV_of (readR_ok hne hds (by assumption))]; rw [hnv (by omega)]; rfl)))))))

theorem number16 (s : List UInt8) (most : Int) (fv : Value) (vv : UInt8 → Int) (hl : s.length ≤ 1000000) (hm0 : 0 ≤ most) (hm1 : most ≤ 4611686018427387904) (hf : ∀ c : UInt8, PureV Tryd.prog fv [.int .u8 (c.toNat : Int)] (.tuple #[.int .i64 (vv c), .bool (decide (0 ≤ dig 16 c))])) (hvv : ∀ c, 0 ≤ dig 16 c → vv c = dig 16 c) : PureF Tryd.prog 15 [.string ⟨s.toArray⟩, .int .i64 16, .int .i64 most, fv] (readV 16 most s) := by
  refine PureF.intro go15 Tryd.func15 rfl rfl fun w0 hp => ?_
  refine K_seq ?_
  refine K_region ?_
  refine W_assign rfl rfl ?_
  refine W_assign rfl rfl ?_
  refine W_nil ?_
  refine N_then_k ?_
  refine K_seq ?_
  refine K_seq ?_
  refine K_region ?_
  refine W_move rfl rfl ?_
  rcases Decidable.em (s = []) with hne | hne
  all_goals (
   first
     | (refine W_seql_t rfl rfl ?_ rfl ?_; (focus (first | rfl | assumption)))
     | (refine W_seql_f rfl rfl ?_ rfl ?_; (focus (first | assumption | decide | exact List.cons_ne_nil _ _)))
     | (refine W_seql rfl rfl rfl ?_)
   refine W_nil ?_
   refine N_then_k ?_
   first
     | refine K_cond_d rfl (fun hc1 => ?_) (fun hc1 => ?_)
     | refine K_cond_n rfl (fun hc1 => ?_) (fun hc1 => ?_)
     | refine K_cond_nb rfl (fun hc1 => ?_) (fun hc1 => ?_)
     | refine K_cond_t rfl (fun hc1 => ?_) (fun hc1 => ?_)
   · try (exfalso; first | omega | (simp only [Bool.false_eq_true, reduceCtorEq] at hc1; done) | (refine absurd hc1 ?_; with_reducible assumption) | (refine absurd ?_ hc1; with_reducible assumption))
     all_goals (
      refine K_seq ?_
      refine K_region ?_
      refine W_pcall hp rfl (fault_new 400 0) rfl ?_
      clear hp; intro w hp
      refine W_assign rfl rfl ?_
      refine W_assign rfl rfl ?_
      refine W_nil ?_
      refine N_then_k ?_
      refine K_ret ?_
      refine N_then_ret ?_
      refine N_done2 (.inr rfl) rfl rfl rfl ?_
      refine ⟨_, rfl, ?_, hp.nil⟩
      first
        | (rw [hne]; rfl)
        | (rw [readV_of (readR_bad hc hds (by omega))]; rfl)
        | (rw [List.take_of_length_le hge] at hds; rw [List.take_of_length_le hge] at *
           first
             | (rw [readV_of (readR_over hne hds (by assumption))]; rfl)
             | (rw [readV_of (readR_ok hne hds (by assumption))]; rw [hnv (by omega)]; rfl)))
   · try (exfalso; first | omega | (simp only [Bool.false_eq_true, reduceCtorEq] at hc1; done) | (refine absurd hc1 ?_; with_reducible assumption) | (refine absurd ?_ hc1; with_reducible assumption))
     all_goals (
      refine K_skip ?_
      refine N_then_k ?_
      refine K_seq ?_
      refine K_region ?_
      refine W_assign rfl rfl ?_
      refine W_assign rfl rfl ?_
      refine W_nil ?_
      refine N_then_k ?_
      refine K_seq ?_
      refine K_seq ?_
      refine K_region ?_
      refine W_move rfl rfl ?_
      refine W_len_s Tryd.underlying9 rfl rfl ?_
      refine W_move rfl rfl ?_
      refine W_nil ?_
      refine N_then_k ?_
      refine K_block ?_
      refine K_loop (σ := Nat × Int) [8, 9, 10, 11, 12, 13, 14, 20, 21, 22, 23, 24, 25, 26, 27, 28, 29, 30, 31, 32, 33, 34, 35, 36, 37, 38, 39, 40, 41, 42, 43, 44, 45, 46, 47, 48, 49, 50, 51, 52, 53, 54, 55]
          (fun q => [(20, .int .i64 q.1), (10, .int .i64 q.2), (11, .bool (decide (most < numV 16 (s.take q.1))))])
          (fun q w => Hp w0 [] [] w ∧ q.1 ≤ s.length ∧ (∀ x ∈ s.take q.1, 0 ≤ dig 16 x) ∧ 0 ≤ q.2 ∧ 0 ≤ numV 16 (s.take q.1) ∧ (numV 16 (s.take q.1) ≤ most → q.2 = numV 16 (s.take q.1)))
          (fun q => s.length - q.1) ((0, 0)) ?_ ?_ ?_
      · repeat' (first | exact sub_lst_nil (sub_nil _) | refine sub_lst rfl ?_ | (refine sub_lst_eq rfl ?_ ?_; · first | rfl | (refine congrArg Value.bool (decide_eq_false ?_).symm; show ¬ most < numV _ []; show ¬ most < 0; omega) | (simp; done) | (congr 1; omega)))
      · exact ⟨hp, Nat.zero_le _, by simp, Int.le_refl _, Int.le_refl _, fun _ => rfl⟩
      · intro ⟨k, n⟩ w hJ
        clear hp
        obtain ⟨hp, hle, hds, hn0, hN0, hnv⟩ := hJ
        simp only at hle hds hn0 hN0 hnv
        rcases Nat.lt_or_ge k s.length with hlt | hge
        all_goals (
         refine K_seq ?_
         refine K_region ?_
         first
           | (refine W_lss_t rfl rfl ?_ rfl ?_; (focus (omega)))
           | (refine W_lss_f rfl rfl ?_ rfl ?_; (focus (omega)))
           | (refine W_lss rfl rfl rfl ?_)
         refine W_nil ?_
         refine N_then_k ?_
         refine K_seq ?_
         first
           | refine K_cond_d rfl (fun hc2 => ?_) (fun hc2 => ?_)
           | refine K_cond_n rfl (fun hc2 => ?_) (fun hc2 => ?_)
           | refine K_cond_nb rfl (fun hc2 => ?_) (fun hc2 => ?_)
           | refine K_cond_t rfl (fun hc2 => ?_) (fun hc2 => ?_)
         · try (exfalso; first | omega | (simp only [Bool.false_eq_true, reduceCtorEq] at hc2; done) | (refine absurd hc2 ?_; with_reducible assumption) | (refine absurd ?_ hc2; with_reducible assumption))
           all_goals (
            refine K_skip ?_
            refine N_then_k ?_
            refine K_seq ?_
            refine K_block ?_
            refine K_seq ?_
            refine K_region ?_
            refine W_move rfl rfl ?_
            refine W_assign rfl rfl ?_
            refine W_nil ?_
            refine N_then_k ?_
            refine K_seq ?_
            refine K_region ?_
            obtain ⟨c, hc⟩ : ∃ c, s[k]? = some c := ⟨_, List.getElem?_eq_getElem hlt⟩
            have hu := c.toNat_lt
            have hN := numV_take (b := 16) hc
            have hdr := dig_range 16 c
            refine W_move rfl rfl ?_
            refine W_move rfl rfl ?_
            refine W_move rfl rfl ?_
            refine W_index_s Tryd.underlying9 rfl rfl ?_ (by first | with_reducible assumption | assumption | exact rfl | exact idx_getD (by first | omega | (simp; omega))) rfl ?_
            (focus (omega))
            refine W_vcall hp rfl rfl (hf c) rfl ?_
            clear hp; intro w hp
            refine W_move rfl rfl ?_
            refine W_extract rfl rfl rfl ?_
            refine W_extract rfl rfl rfl ?_
            refine W_assign rfl rfl ?_
            refine W_assign rfl rfl ?_
            refine W_nil ?_
            refine N_then_k ?_
            refine K_seq ?_
            refine K_seq ?_
            refine K_region ?_
            refine W_move rfl rfl ?_
            first
              | (refine W_not_t rfl rfl ?_)
              | (refine W_not_f rfl rfl ?_)
              | (refine W_not rfl rfl ?_)
            refine W_nil ?_
            refine N_then_k ?_
            first
              | refine K_cond_d rfl (fun hc3 => ?_) (fun hc3 => ?_)
              | refine K_cond_n rfl (fun hc3 => ?_) (fun hc3 => ?_)
              | refine K_cond_nb rfl (fun hc3 => ?_) (fun hc3 => ?_)
              | refine K_cond_t rfl (fun hc3 => ?_) (fun hc3 => ?_)
            · try (exfalso; first | omega | (simp only [Bool.false_eq_true, reduceCtorEq] at hc3; done) | (refine absurd hc3 ?_; with_reducible assumption) | (refine absurd ?_ hc3; with_reducible assumption))
              all_goals (
               refine K_seq ?_
               refine K_region ?_
               refine W_move rfl rfl ?_
               refine W_pcall hp rfl (fault_new 400 k) rfl ?_
               clear hp; intro w hp
               refine W_assign rfl rfl ?_
               refine W_assign rfl rfl ?_
               refine W_nil ?_
               refine N_then_k ?_
               refine K_ret ?_
               refine N_then_ret ?_
               refine N_block_ret ?_
               refine N_then_ret ?_
               refine N_then_ret ?_
               refine N_block_ret ?_
               refine N_then_ret ?_
               refine N_done2 (.inr rfl) rfl rfl rfl ?_
               refine ⟨_, rfl, ?_, hp.nil⟩
               first
                 | (rw [hne]; rfl)
                 | (rw [readV_of (readR_bad hc hds (by omega))]; rfl)
                 | (rw [List.take_of_length_le hge] at hds; rw [List.take_of_length_le hge] at *
                    first
                      | (rw [readV_of (readR_over hne hds (by assumption))]; rfl)
                      | (rw [readV_of (readR_ok hne hds (by assumption))]; rw [hnv (by omega)]; rfl)))
            · try (exfalso; first | omega | (simp only [Bool.false_eq_true, reduceCtorEq] at hc3; done) | (refine absurd hc3 ?_; with_reducible assumption) | (refine absurd ?_ hc3; with_reducible assumption))
              all_goals (
               refine K_skip ?_
               refine N_then_k ?_
               refine K_seq ?_
               refine K_seq ?_
               refine K_region ?_
               have hve := hvv c (by assumption)
               rcases Int.lt_or_le most (numV 16 (s.take k)) with hov | hov
               all_goals rcases Int.lt_or_le most (dig 16 c) with hdm | hdm
               all_goals first | rw [decide_eq_true hov] | (rw [decide_eq_false (show ¬ most < numV 16 (s.take k) by omega)]; obtain rfl := hnv hov)
               all_goals (
                refine W_move rfl rfl ?_
                refine W_move rfl rfl ?_
                first
                  | refine W_guard_lit_t rfl ?_
                  | refine W_guard_lit_f rfl ?_
                  | refine W_guard_lit_u rfl ?_
                  | refine W_guard_split_d rfl rfl rfl (fun hg4 => ?_) (fun hg4 => ?_)
                  | refine W_guard_split_n rfl rfl rfl (fun hg4 => ?_) (fun hg4 => ?_)
                  | refine W_guard_split_nb rfl rfl rfl (fun hg4 => ?_) (fun hg4 => ?_)
                  | refine W_guard_split rfl rfl rfl (fun hg4 => ?_) (fun hg4 => ?_)
                all_goals try (exfalso; first | omega | (simp only [Bool.false_eq_true, reduceCtorEq] at hg4; done) | (refine absurd hg4 ?_; with_reducible assumption) | (refine absurd ?_ hg4; with_reducible assumption))
                all_goals (
                 first
                   | (iterate 7 refine W_guard_no rfl rfl rfl ?_)
                   | (iterate 7 refine W_guard_un rfl rfl ?_)
                   | (refine W_guard_yes rfl ?_
                      refine W_move rfl rfl ?_
                      refine W_guard_yes rfl ?_
                      refine W_move rfl rfl ?_
                      refine W_guard_yes rfl ?_
                      refine W_move rfl rfl ?_
                      refine W_guard_yes rfl ?_
                      first
                        | (refine W_sub rfl rfl (wr_i64 ?_) rfl ?_; (focus (omega)))
                        | (refine W_sub rfl rfl rfl rfl ?_)
                      refine W_guard_yes rfl ?_
                      refine W_move rfl rfl ?_
                      refine W_guard_yes rfl ?_
                      first
                        | (refine W_quo rfl rfl ?_ (quo_nn ?_ (wr_i64 ?_)) rfl ?_; (focus (omega)); (focus (omega)); (focus (omega)))
                        | (refine W_quo rfl rfl ?_ rfl rfl ?_; (focus (omega)))
                      refine W_guard_yes rfl ?_
                      first
                        | (refine W_gtr_t rfl rfl ?_ rfl ?_; (focus (omega)))
                        | (refine W_gtr_f rfl rfl ?_ rfl ?_; (focus (omega)))
                        | (refine W_gtr rfl rfl rfl ?_))
                 first
                   | (refine W_pick_t rfl rfl rfl ?_)
                   | (refine W_pick_f rfl rfl rfl ?_)
                   | (refine W_pick_b rfl rfl rfl rfl ?_)
                 refine W_move rfl rfl ?_
                 first
                   | refine W_guard_lit_t rfl ?_
                   | refine W_guard_lit_f rfl ?_
                   | refine W_guard_lit_u rfl ?_
                   | refine W_guard_split_d rfl rfl rfl (fun hg5 => ?_) (fun hg5 => ?_)
                   | refine W_guard_split_n rfl rfl rfl (fun hg5 => ?_) (fun hg5 => ?_)
                   | refine W_guard_split_nb rfl rfl rfl (fun hg5 => ?_) (fun hg5 => ?_)
                   | refine W_guard_split rfl rfl rfl (fun hg5 => ?_) (fun hg5 => ?_)
                 all_goals try (exfalso; first | omega | (simp only [Bool.false_eq_true, reduceCtorEq] at hg5; done) | (refine absurd hg5 ?_; with_reducible assumption) | (refine absurd ?_ hg5; with_reducible assumption))
                 all_goals (
                  first
                    | (iterate 3 refine W_guard_no rfl rfl rfl ?_)
                    | (iterate 3 refine W_guard_un rfl rfl ?_)
                    | (refine W_guard_yes rfl ?_
                       refine W_move rfl rfl ?_
                       refine W_guard_yes rfl ?_
                       refine W_move rfl rfl ?_
                       refine W_guard_yes rfl ?_
                       first
                         | (refine W_gtr_t rfl rfl ?_ rfl ?_; (focus (omega)))
                         | (refine W_gtr_f rfl rfl ?_ rfl ?_; (focus (omega)))
                         | (refine W_gtr rfl rfl rfl ?_))
                  first
                    | (refine W_pick_t rfl rfl rfl ?_)
                    | (refine W_pick_f rfl rfl rfl ?_)
                    | (refine W_pick_b rfl rfl rfl rfl ?_)
                  refine W_nil ?_
                  refine N_then_k ?_
                  first
                    | refine K_cond_d rfl (fun hc6 => ?_) (fun hc6 => ?_)
                    | refine K_cond_n rfl (fun hc6 => ?_) (fun hc6 => ?_)
                    | refine K_cond_nb rfl (fun hc6 => ?_) (fun hc6 => ?_)
                    | refine K_cond_t rfl (fun hc6 => ?_) (fun hc6 => ?_)
                  · try (exfalso; first | omega | (simp only [Bool.false_eq_true, reduceCtorEq] at hc6; done) | (refine absurd hc6 ?_; with_reducible assumption) | (refine absurd ?_ hc6; with_reducible assumption))
                    all_goals (
                     refine K_seq ?_
                     refine K_region ?_
                     refine W_assign rfl rfl ?_
                     refine W_nil ?_
                     refine N_then_k ?_
                     refine K_exit ?_
                     refine N_then_exit ?_
                     refine N_block_exit ?_
                     refine N_then_k ?_
                     refine K_region ?_
                     first
                       | (refine W_add rfl rfl (wr_i64 ?_) rfl ?_; (focus (omega)))
                       | (refine W_add rfl rfl rfl rfl ?_)
                     refine W_move rfl rfl ?_
                     refine W_nil ?_
                     first
                       | (refine N_again (k + 1, numV 16 (s.take k) * 16 + dig 16 c) (sub_end ?_ ?_) ⟨hp, hlt, take_snoc_ok hc hds (by assumption), ?_, ?_, ?_⟩ ?_
                          · repeat' (first | exact sub_lst_nil (sub_nil _) | refine sub_lst rfl ?_ | (refine sub_lst_eq rfl ?_ ?_; · first | (refine congrArg (Value.int .i64) ?_; dsimp only; omega) | (refine congrArg Value.bool (decide_eq_false ?_).symm; dsimp only; omega)))
                          · repeat' (first | exact sub_refl _ | exact sub_strip _ _ | refine sub_s_cons rfl ?_ | refine sub_s_lst rfl ?_ | refine sub_s_strip rfl ?_)
                          · dsimp only; omega
                          · dsimp only; omega
                          · intro _; exact hN.symm
                          · show _ < _; simp only; omega)
                       | (refine N_again (k + 1, _) (sub_end ?_ ?_) ⟨hp, hlt, take_snoc_ok hc hds (by assumption), hn0, ?_, ?_⟩ ?_
                          · repeat' (first | exact sub_lst_nil (sub_nil _) | refine sub_lst rfl ?_ | (refine sub_lst_eq rfl ?_ ?_; · (refine congrArg Value.bool (decide_eq_true ?_).symm; dsimp only; omega)))
                          · repeat' (first | exact sub_refl _ | exact sub_strip _ _ | refine sub_s_cons rfl ?_ | refine sub_s_lst rfl ?_ | refine sub_s_strip rfl ?_)
                          · dsimp only; omega
                          · intro h; exfalso; dsimp only at h; omega
                          · show _ < _; simp only; omega))
                  · try (exfalso; first | omega | (simp only [Bool.false_eq_true, reduceCtorEq] at hc6; done) | (refine absurd hc6 ?_; with_reducible assumption) | (refine absurd ?_ hc6; with_reducible assumption))
                    all_goals (
                     refine K_skip ?_
                     refine N_then_k ?_
                     refine K_region ?_
                     refine W_move rfl rfl ?_
                     refine W_move rfl rfl ?_
                     first
                       | (refine W_mul rfl rfl (wr_i64 ?_) rfl ?_; (focus (omega)))
                       | (refine W_mul rfl rfl rfl rfl ?_)
                     refine W_move rfl rfl ?_
                     first
                       | (refine W_add rfl rfl (wr_i64 ?_) rfl ?_; (focus (omega)))
                       | (refine W_add rfl rfl rfl rfl ?_)
                     refine W_assign rfl rfl ?_
                     refine W_nil ?_
                     refine N_block_normal ?_
                     refine N_then_k ?_
                     refine K_region ?_
                     first
                       | (refine W_add rfl rfl (wr_i64 ?_) rfl ?_; (focus (omega)))
                       | (refine W_add rfl rfl rfl rfl ?_)
                     refine W_move rfl rfl ?_
                     refine W_nil ?_
                     first
                       | (refine N_again (k + 1, numV 16 (s.take k) * 16 + dig 16 c) (sub_end ?_ ?_) ⟨hp, hlt, take_snoc_ok hc hds (by assumption), ?_, ?_, ?_⟩ ?_
                          · repeat' (first | exact sub_lst_nil (sub_nil _) | refine sub_lst rfl ?_ | (refine sub_lst_eq rfl ?_ ?_; · first | (refine congrArg (Value.int .i64) ?_; dsimp only; omega) | (refine congrArg Value.bool (decide_eq_false ?_).symm; dsimp only; omega)))
                          · repeat' (first | exact sub_refl _ | exact sub_strip _ _ | refine sub_s_cons rfl ?_ | refine sub_s_lst rfl ?_ | refine sub_s_strip rfl ?_)
                          · dsimp only; omega
                          · dsimp only; omega
                          · intro _; exact hN.symm
                          · show _ < _; simp only; omega)
                       | (refine N_again (k + 1, _) (sub_end ?_ ?_) ⟨hp, hlt, take_snoc_ok hc hds (by assumption), hn0, ?_, ?_⟩ ?_
                          · repeat' (first | exact sub_lst_nil (sub_nil _) | refine sub_lst rfl ?_ | (refine sub_lst_eq rfl ?_ ?_; · (refine congrArg Value.bool (decide_eq_true ?_).symm; dsimp only; omega)))
                          · repeat' (first | exact sub_refl _ | exact sub_strip _ _ | refine sub_s_cons rfl ?_ | refine sub_s_lst rfl ?_ | refine sub_s_strip rfl ?_)
                          · dsimp only; omega
                          · intro h; exfalso; dsimp only at h; omega
                          · show _ < _; simp only; omega)))))))
         · try (exfalso; first | omega | (simp only [Bool.false_eq_true, reduceCtorEq] at hc2; done) | (refine absurd hc2 ?_; with_reducible assumption) | (refine absurd ?_ hc2; with_reducible assumption))
           all_goals (
            refine K_exit ?_
            refine N_then_exit ?_
            refine N_then_exit ?_
            refine N_block_exit ?_
            refine N_then_k ?_
            refine K_seq ?_
            refine K_seq ?_
            refine K_region ?_
            refine W_move rfl rfl ?_
            refine W_nil ?_
            refine N_then_k ?_
            first
              | refine K_cond_d rfl (fun hc7 => ?_) (fun hc7 => ?_)
              | refine K_cond_n rfl (fun hc7 => ?_) (fun hc7 => ?_)
              | refine K_cond_nb rfl (fun hc7 => ?_) (fun hc7 => ?_)
              | refine K_cond_t rfl (fun hc7 => ?_) (fun hc7 => ?_)
            · try (exfalso; first | omega | (simp only [Bool.false_eq_true, reduceCtorEq] at hc7; done) | (refine absurd hc7 ?_; with_reducible assumption) | (refine absurd ?_ hc7; with_reducible assumption))
              all_goals (
               refine K_seq ?_
               refine K_region ?_
               refine W_pcall hp rfl (fault_new 413 0) rfl ?_
               clear hp; intro w hp
               refine W_assign rfl rfl ?_
               refine W_assign rfl rfl ?_
               refine W_nil ?_
               refine N_then_k ?_
               refine K_ret ?_
               refine N_then_ret ?_
               refine N_done2 (.inr rfl) rfl rfl rfl ?_
               refine ⟨_, rfl, ?_, hp.nil⟩
               first
                 | (rw [hne]; rfl)
                 | (rw [readV_of (readR_bad hc hds (by omega))]; rfl)
                 | (rw [List.take_of_length_le hge] at hds; rw [List.take_of_length_le hge] at *
                    first
                      | (rw [readV_of (readR_over hne hds (by assumption))]; rfl)
                      | (rw [readV_of (readR_ok hne hds (by assumption))]; rw [hnv (by omega)]; rfl)))
            · try (exfalso; first | omega | (simp only [Bool.false_eq_true, reduceCtorEq] at hc7; done) | (refine absurd hc7 ?_; with_reducible assumption) | (refine absurd ?_ hc7; with_reducible assumption))
              all_goals (
               refine K_skip ?_
               refine N_then_k ?_
               refine K_seq ?_
               refine K_region ?_
               refine W_move rfl rfl ?_
               refine W_assign rfl rfl ?_
               refine W_assign rfl rfl ?_
               refine W_nil ?_
               refine N_then_k ?_
               refine K_ret ?_
               refine N_done2 (.inr rfl) rfl rfl rfl ?_
               refine ⟨_, rfl, ?_, hp.nil⟩
               first
                 | (rw [hne]; rfl)
                 | (rw [readV_of (readR_bad hc hds (by omega))]; rfl)
                 | (rw [List.take_of_length_le hge] at hds; rw [List.take_of_length_le hge] at *
                    first
                      | (rw [readV_of (readR_over hne hds (by assumption))]; rfl)
                      | (rw [readV_of (readR_ok hne hds (by assumption))]; rw [hnv (by omega)]; rfl)))))))

theorem parse_spec (s : List UInt8) (most : Int) (hl : s.length ≤ 1000000) (hm0 : 0 ≤ most) (hm1 : most ≤ 4611686018427387904) : PureF Tryd.prog 8 [.string ⟨s.toArray⟩, .int .i64 most] (readV 10 most s) := by
  refine PureF.intro go8 Tryd.func8 rfl rfl fun w0 hp => ?_
  refine K_seq ?_
  refine K_region ?_
  refine W_assign rfl rfl ?_
  refine W_assign rfl rfl ?_
  refine W_nil ?_
  refine N_then_k ?_
  refine K_seq ?_
  refine K_region ?_
  refine W_move rfl rfl ?_
  refine W_move rfl rfl ?_
  refine W_pcall hp rfl (number10 s most _ (fun c => (c.toNat : Int) - 48) hl hm0 hm1 (fun c => (parse1_spec c).toV) (fun c h => by rw [dig_10] at *; split at h; rename_i h2; rw [if_pos h2]; omega)) rfl ?_
  clear hp; intro w hp
  refine W_extract rfl rfl rfl ?_
  refine W_extract rfl rfl rfl ?_
  refine W_assign rfl rfl ?_
  refine W_assign rfl rfl ?_
  refine W_nil ?_
  refine N_then_k ?_
  refine K_ret ?_
  refine N_done2 (.inr rfl) rfl rfl rfl ?_
  exact ⟨_, rfl, rfl, hp.nil⟩

theorem parseHex_spec (s : List UInt8) (most : Int) (hl : s.length ≤ 1000000) (hm0 : 0 ≤ most) (hm1 : most ≤ 4611686018427387904) : PureF Tryd.prog 11 [.string ⟨s.toArray⟩, .int .i64 most] (readV 16 most s) := by
  refine PureF.intro go11 Tryd.func11 rfl rfl fun w0 hp => ?_
  refine K_seq ?_
  refine K_region ?_
  refine W_assign rfl rfl ?_
  refine W_assign rfl rfl ?_
  refine W_nil ?_
  refine N_then_k ?_
  refine K_seq ?_
  refine K_region ?_
  refine W_move rfl rfl ?_
  refine W_move rfl rfl ?_
  refine W_pcall hp rfl (number16 s most _ (fun c => if hexI c.toNat < 0 then 0 else hexI c.toNat) hl hm0 hm1 (fun c => (hex_spec c).toV) (fun c h => by rw [dig_16] at *; rw [if_neg (by omega)])) rfl ?_
  clear hp; intro w hp
  refine W_extract rfl rfl rfl ?_
  refine W_extract rfl rfl rfl ?_
  refine W_assign rfl rfl ?_
  refine W_assign rfl rfl ?_
  refine W_nil ?_
  refine N_then_k ?_
  refine K_ret ?_
  refine N_done2 (.inr rfl) rfl rfl rfl ?_
  exact ⟨_, rfl, rfl, hp.nil⟩

theorem dsum_ok (a b most : Int) (ha : 0 ≤ a ∧ a ≤ 4611686018427387904) (hb : 0 ≤ b ∧ b ≤ 4611686018427387904) (hm : 0 ≤ most ∧ most ≤ 4611686018427387904) (h : a + b ≤ most) : PureF Tryd.prog 14 [.int .i64 a, .int .i64 b, .int .i64 most] (.tuple #[.int .i64 (a + b), .bool true]) := by
  refine PureF.intro go14 Tryd.func14 rfl rfl fun w0 hp => ?_
  refine K_seq ?_
  refine K_region ?_
  refine W_assign rfl rfl ?_
  refine W_assign rfl rfl ?_
  refine W_nil ?_
  refine N_then_k ?_
  refine K_seq ?_
  refine K_seq ?_
  refine K_region ?_
  refine W_move rfl rfl ?_
  refine W_move rfl rfl ?_
  first
    | (refine W_gtr_t rfl rfl ?_ rfl ?_; (focus (omega)))
    | (refine W_gtr_f rfl rfl ?_ rfl ?_; (focus (omega)))
    | (refine W_gtr rfl rfl rfl ?_)
  refine W_move rfl rfl ?_
  first
    | refine W_guard_lit_t rfl ?_
    | refine W_guard_lit_f rfl ?_
    | refine W_guard_lit_u rfl ?_
    | refine W_guard_split_d rfl rfl rfl (fun hg1 => ?_) (fun hg1 => ?_)
    | refine W_guard_split_n rfl rfl rfl (fun hg1 => ?_) (fun hg1 => ?_)
    | refine W_guard_split_nb rfl rfl rfl (fun hg1 => ?_) (fun hg1 => ?_)
    | refine W_guard_split rfl rfl rfl (fun hg1 => ?_) (fun hg1 => ?_)
  all_goals try (exfalso; first | omega | (simp only [Bool.false_eq_true, reduceCtorEq] at hg1; done) | (refine absurd hg1 ?_; with_reducible assumption) | (refine absurd ?_ hg1; with_reducible assumption))
  all_goals (
   first
     | (iterate 5 refine W_guard_no rfl rfl rfl ?_)
     | (iterate 5 refine W_guard_un rfl rfl ?_)
     | (refine W_guard_yes rfl ?_
        refine W_move rfl rfl ?_
        refine W_guard_yes rfl ?_
        refine W_move rfl rfl ?_
        refine W_guard_yes rfl ?_
        refine W_move rfl rfl ?_
        refine W_guard_yes rfl ?_
        first
          | (refine W_sub rfl rfl (wr_i64 ?_) rfl ?_; (focus (omega)))
          | (refine W_sub rfl rfl rfl rfl ?_)
        refine W_guard_yes rfl ?_
        first
          | (refine W_gtr_t rfl rfl ?_ rfl ?_; (focus (omega)))
          | (refine W_gtr_f rfl rfl ?_ rfl ?_; (focus (omega)))
          | (refine W_gtr rfl rfl rfl ?_))
   first
     | (refine W_pick_t rfl rfl rfl ?_)
     | (refine W_pick_f rfl rfl rfl ?_)
     | (refine W_pick_b rfl rfl rfl rfl ?_)
   refine W_nil ?_
   refine N_then_k ?_
   first
     | refine K_cond_d rfl (fun hc2 => ?_) (fun hc2 => ?_)
     | refine K_cond_n rfl (fun hc2 => ?_) (fun hc2 => ?_)
     | refine K_cond_nb rfl (fun hc2 => ?_) (fun hc2 => ?_)
     | refine K_cond_t rfl (fun hc2 => ?_) (fun hc2 => ?_)
   · try (exfalso; first | omega | (simp only [Bool.false_eq_true, reduceCtorEq] at hc2; done) | (refine absurd hc2 ?_; with_reducible assumption) | (refine absurd ?_ hc2; with_reducible assumption))
     all_goals (
      refine K_seq ?_
      fail "not to be reached")
   · try (exfalso; first | omega | (simp only [Bool.false_eq_true, reduceCtorEq] at hc2; done) | (refine absurd hc2 ?_; with_reducible assumption) | (refine absurd ?_ hc2; with_reducible assumption))
     all_goals (
      refine K_skip ?_
      refine N_then_k ?_
      refine K_seq ?_
      refine K_region ?_
      refine W_move rfl rfl ?_
      refine W_move rfl rfl ?_
      first
        | (refine W_add rfl rfl (wr_i64 ?_) rfl ?_; (focus (omega)))
        | (refine W_add rfl rfl rfl rfl ?_)
      refine W_assign rfl rfl ?_
      refine W_assign rfl rfl ?_
      refine W_nil ?_
      refine N_then_k ?_
      refine K_ret ?_
      refine N_done2 (.inr rfl) rfl rfl rfl ?_
      exact ⟨_, rfl, rfl, hp.nil⟩))

theorem dsum_no (a b most : Int) (ha : 0 ≤ a ∧ a ≤ 4611686018427387904) (hb : 0 ≤ b ∧ b ≤ 4611686018427387904) (hm : 0 ≤ most ∧ most ≤ 4611686018427387904) (h : most < a + b) : PureF Tryd.prog 14 [.int .i64 a, .int .i64 b, .int .i64 most] (.tuple #[.int .i64 0, .bool false]) := by
  refine PureF.intro go14 Tryd.func14 rfl rfl fun w0 hp => ?_
  refine K_seq ?_
  refine K_region ?_
  refine W_assign rfl rfl ?_
  refine W_assign rfl rfl ?_
  refine W_nil ?_
  refine N_then_k ?_
  refine K_seq ?_
  refine K_seq ?_
  refine K_region ?_
  refine W_move rfl rfl ?_
  refine W_move rfl rfl ?_
  first
    | (refine W_gtr_t rfl rfl ?_ rfl ?_; (focus (omega)))
    | (refine W_gtr_f rfl rfl ?_ rfl ?_; (focus (omega)))
    | (refine W_gtr rfl rfl rfl ?_)
  refine W_move rfl rfl ?_
  first
    | refine W_guard_lit_t rfl ?_
    | refine W_guard_lit_f rfl ?_
    | refine W_guard_lit_u rfl ?_
    | refine W_guard_split_d rfl rfl rfl (fun hg1 => ?_) (fun hg1 => ?_)
    | refine W_guard_split_n rfl rfl rfl (fun hg1 => ?_) (fun hg1 => ?_)
    | refine W_guard_split_nb rfl rfl rfl (fun hg1 => ?_) (fun hg1 => ?_)
    | refine W_guard_split rfl rfl rfl (fun hg1 => ?_) (fun hg1 => ?_)
  all_goals try (exfalso; first | omega | (simp only [Bool.false_eq_true, reduceCtorEq] at hg1; done) | (refine absurd hg1 ?_; with_reducible assumption) | (refine absurd ?_ hg1; with_reducible assumption))
  all_goals (
   first
     | (iterate 5 refine W_guard_no rfl rfl rfl ?_)
     | (iterate 5 refine W_guard_un rfl rfl ?_)
     | (refine W_guard_yes rfl ?_
        refine W_move rfl rfl ?_
        refine W_guard_yes rfl ?_
        refine W_move rfl rfl ?_
        refine W_guard_yes rfl ?_
        refine W_move rfl rfl ?_
        refine W_guard_yes rfl ?_
        first
          | (refine W_sub rfl rfl (wr_i64 ?_) rfl ?_; (focus (omega)))
          | (refine W_sub rfl rfl rfl rfl ?_)
        refine W_guard_yes rfl ?_
        first
          | (refine W_gtr_t rfl rfl ?_ rfl ?_; (focus (omega)))
          | (refine W_gtr_f rfl rfl ?_ rfl ?_; (focus (omega)))
          | (refine W_gtr rfl rfl rfl ?_))
   first
     | (refine W_pick_t rfl rfl rfl ?_)
     | (refine W_pick_f rfl rfl rfl ?_)
     | (refine W_pick_b rfl rfl rfl rfl ?_)
   refine W_nil ?_
   refine N_then_k ?_
   first
     | refine K_cond_d rfl (fun hc2 => ?_) (fun hc2 => ?_)
     | refine K_cond_n rfl (fun hc2 => ?_) (fun hc2 => ?_)
     | refine K_cond_nb rfl (fun hc2 => ?_) (fun hc2 => ?_)
     | refine K_cond_t rfl (fun hc2 => ?_) (fun hc2 => ?_)
   · try (exfalso; first | omega | (simp only [Bool.false_eq_true, reduceCtorEq] at hc2; done) | (refine absurd hc2 ?_; with_reducible assumption) | (refine absurd ?_ hc2; with_reducible assumption))
     all_goals (
      refine K_seq ?_
      refine K_region ?_
      refine W_assign rfl rfl ?_
      refine W_assign rfl rfl ?_
      refine W_nil ?_
      refine N_then_k ?_
      refine K_ret ?_
      refine N_then_ret ?_
      refine N_done2 (.inr rfl) rfl rfl rfl ?_
      exact ⟨_, rfl, rfl, hp.nil⟩)
   · try (exfalso; first | omega | (simp only [Bool.false_eq_true, reduceCtorEq] at hc2; done) | (refine absurd hc2 ?_; with_reducible assumption) | (refine absurd ?_ hc2; with_reducible assumption))
     all_goals (
      refine K_skip ?_
      refine N_then_k ?_
      refine K_seq ?_
      fail "not to be reached"))

end Go.Proofs.YthkdgfflgamegaaDoor
