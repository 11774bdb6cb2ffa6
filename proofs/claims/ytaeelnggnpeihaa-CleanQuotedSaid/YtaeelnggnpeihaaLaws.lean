/-
  The fixed examples of package clean, and the laws, walked.
-/
import Derived.Test.YtaeelnggnpeihaaUnq
namespace Go.Proofs.Ytaeelnggnpeihaa
open Go.Sx Go.RowKit
set_option linter.unusedVariables false
set_option linter.unusedSimpArgs false
set_option maxRecDepth 100000

theorem quote_uq {s : List UInt8} (h : s.all fieldB = true) : unquote (quote s) = some s := unquote_some.2 ⟨rfl, h⟩
theorem uqR_some {s t : List UInt8} (h : unquote s = some t) : Value.tuple #[.string ⟨((unquote s).getD []).toArray⟩, .bool (unquote s).isSome] = .tuple #[.string ⟨t.toArray⟩, .bool true] := by rw [h]; rfl
theorem uqR_none {s : List UInt8} (h : unquote s = none) : Value.tuple #[.string ⟨((unquote s).getD []).toArray⟩, .bool (unquote s).isSome] = .tuple #[.string ⟨#[]⟩, .bool false] := by rw [h]; rfl
theorem quote_length (s : List UInt8) : (quote s).length ≤ 2 * s.length + 2 := by have := quoteB_length s; simp [quote]; omega
theorem quote_join (a b : List UInt8) : quote (a ++ b) = (quote a).take (((quote a).length : Int) - 1).toNat ++ (quote b).drop (1 : Int).toNat := by
  have e : (quote a).take (((quote a).length : Int) - 1).toNat = 34 :: quoteB a := by
    have h1 : (((quote a).length : Int) - 1).toNat = (34 :: quoteB a).length := by simp [quote]
    rw [h1]; exact List.take_left' (l₂ := [34]) rfl
  rw [e, quote, quoteB_append]
  show _ = _ ++ (quoteB b ++ [34])
  simp
def specialN (s : List UInt8) : Nat := (s.filter fun c => decide (SpecialP c.toNat)).length
theorem specialN_take {s : List UInt8} {k : Nat} {c : UInt8} (h : s[k]? = some c) : specialN (s.take (k + 1)) = specialN (s.take k) + (if SpecialP c.toNat then 1 else 0) := by
  rw [List.take_add_one, h]
  simp only [specialN, Option.toList_some, List.filter_append, List.length_append, List.filter_cons, List.filter_nil]
  split <;> split <;> simp_all
theorem quote_count (s : List UInt8) : (quote s).length = s.length + (2 + specialN s) := by
  have : (quoteB s).length = s.length + specialN s := by
    induction s with
    | nil => rfl
    | cons c s ih =>
      simp only [quoteB, List.length_append, ih, specialN, List.filter_cons, List.length_cons]
      by_cases h : SpecialP c.toNat <;> simp [h] <;> omega
  simp [quote, this]; omega
theorem quote_first (s : List UInt8) : (quote s)[(0 : Int).toNat]? = some 34 := rfl
theorem quote_last (s : List UInt8) : (quote s)[(((quote s).length : Int) - 1).toNat]? = some 34 := by
  have h1 : (((quote s).length : Int) - 1).toNat = (34 :: quoteB s).length := by simp [quote]
  rw [h1, quote]; simp

theorem awake_spec  : PureF Try.prog 8 [] (.bool true) := by
  refine PureF.intro go8 Try.func8 rfl rfl fun w0 hp => ?_
  refine K_seq ?_
  refine K_region ?_
  refine W_assign rfl rfl ?_
  refine W_nil ?_
  refine N_then_k ?_
  refine K_seq ?_
  refine K_region ?_
  refine W_pcall hp rfl ((quote_ok [97, 34, 98] (by decide) (by decide +kernel)).eq (r' := .tuple #[.string ⟨[34, 97, 92, 34, 98, 34].toArray⟩, .bool true]) (by rw [show quote [97, 34, 98] = [34, 97, 92, 34, 98, 34] from by decide +kernel])) rfl ?_
  clear hp; intro w hp
  refine W_move rfl rfl ?_
  refine W_extract rfl rfl rfl ?_
  refine W_extract rfl rfl rfl ?_
  refine W_assign rfl rfl ?_
  refine W_assign rfl rfl ?_
  refine W_nil ?_
  refine N_then_k ?_
  refine K_seq ?_
  refine K_region ?_
  refine W_move rfl rfl ?_
  refine W_pcall hp rfl ((unquote_spec [34, 97, 92, 34, 98, 34] (by decide)).eq (uqR_some (t := [97, 34, 98]) (by decide +kernel))) rfl ?_
  clear hp; intro w hp
  refine W_move rfl rfl ?_
  refine W_extract rfl rfl rfl ?_
  refine W_extract rfl rfl rfl ?_
  refine W_assign rfl rfl ?_
  refine W_assign rfl rfl ?_
  refine W_nil ?_
  refine N_then_k ?_
  refine K_seq ?_
  refine K_region ?_
  refine W_pcall hp rfl ((unquote_spec [34, 92, 97, 34] (by decide)).eq (uqR_none (by decide +kernel))) rfl ?_
  clear hp; intro w hp
  refine W_move rfl rfl ?_
  refine W_extract rfl rfl rfl ?_
  refine W_extract rfl rfl rfl ?_
  refine W_assign rfl rfl ?_
  refine W_assign rfl rfl ?_
  refine W_nil ?_
  refine N_then_k ?_
  refine K_seq ?_
  refine K_region ?_
  refine W_move rfl rfl ?_
  first
    | (refine W_seql_t rfl rfl ?_ rfl ?_; (focus (first | rfl | assumption)))
    | (refine W_seql_f rfl rfl ?_ rfl ?_; (focus (first | assumption | decide | exact List.cons_ne_nil _ _)))
    | (refine W_seql rfl rfl rfl ?_)
  refine W_move rfl rfl ?_
  first
    | refine W_guard_lit_t rfl ?_
    | refine W_guard_lit_f rfl ?_
    | refine W_guard_lit_u rfl ?_
    | refine W_guard_split_d rfl rfl rfl (fun hg1 => ?_) (fun hg1 => ?_)
    | refine W_guard_split_n rfl rfl rfl (fun hg1 => ?_) (fun hg1 => ?_)
    | refine W_guard_split_nb rfl rfl rfl (fun hg1 => ?_) (fun hg1 => ?_)
    | refine W_guard_split rfl rfl rfl (fun hg1 => ?_) (fun hg1 => ?_)
  all_goals try (exfalso; first | omega | (simp only [Bool.false_eq_true, reduceCtorEq] at hg1; done) | (refine absurd hg1 ?_; with_reducible assumption) | (refine absurd ?_ hg1; with_reducible assumption))
  all_goals (
   first
     | (refine W_guard_no rfl rfl rfl ?_)
     | (refine W_guard_un rfl rfl ?_)
     | (refine W_guard_yes rfl ?_
        refine W_move rfl rfl ?_)
   first
     | (refine W_pick_t rfl rfl rfl ?_)
     | (refine W_pick_f rfl rfl rfl ?_)
     | (refine W_pick_b rfl rfl rfl rfl ?_)
   refine W_move rfl rfl ?_
   first
     | refine W_guard_lit_t rfl ?_
     | refine W_guard_lit_f rfl ?_
     | refine W_guard_lit_u rfl ?_
     | refine W_guard_split_d rfl rfl rfl (fun hg2 => ?_) (fun hg2 => ?_)
     | refine W_guard_split_n rfl rfl rfl (fun hg2 => ?_) (fun hg2 => ?_)
     | refine W_guard_split_nb rfl rfl rfl (fun hg2 => ?_) (fun hg2 => ?_)
     | refine W_guard_split rfl rfl rfl (fun hg2 => ?_) (fun hg2 => ?_)
   all_goals try (exfalso; first | omega | (simp only [Bool.false_eq_true, reduceCtorEq] at hg2; done) | (refine absurd hg2 ?_; with_reducible assumption) | (refine absurd ?_ hg2; with_reducible assumption))
   all_goals (
    first
      | (iterate 2 refine W_guard_no rfl rfl rfl ?_)
      | (iterate 2 refine W_guard_un rfl rfl ?_)
      | (refine W_guard_yes rfl ?_
         refine W_move rfl rfl ?_
         refine W_guard_yes rfl ?_
         first
           | (refine W_seql_t rfl rfl ?_ rfl ?_; (focus (first | rfl | assumption)))
           | (refine W_seql_f rfl rfl ?_ rfl ?_; (focus (first | assumption | decide | exact List.cons_ne_nil _ _)))
           | (refine W_seql rfl rfl rfl ?_))
    first
      | (refine W_pick_t rfl rfl rfl ?_)
      | (refine W_pick_f rfl rfl rfl ?_)
      | (refine W_pick_b rfl rfl rfl rfl ?_)
    refine W_move rfl rfl ?_
    first
      | refine W_guard_lit_t rfl ?_
      | refine W_guard_lit_f rfl ?_
      | refine W_guard_lit_u rfl ?_
      | refine W_guard_split_d rfl rfl rfl (fun hg3 => ?_) (fun hg3 => ?_)
      | refine W_guard_split_n rfl rfl rfl (fun hg3 => ?_) (fun hg3 => ?_)
      | refine W_guard_split_nb rfl rfl rfl (fun hg3 => ?_) (fun hg3 => ?_)
      | refine W_guard_split rfl rfl rfl (fun hg3 => ?_) (fun hg3 => ?_)
    all_goals try (exfalso; first | omega | (simp only [Bool.false_eq_true, reduceCtorEq] at hg3; done) | (refine absurd hg3 ?_; with_reducible assumption) | (refine absurd ?_ hg3; with_reducible assumption))
    all_goals (
     first
       | (refine W_guard_no rfl rfl rfl ?_)
       | (refine W_guard_un rfl rfl ?_)
       | (refine W_guard_yes rfl ?_
          refine W_move rfl rfl ?_)
     first
       | (refine W_pick_t rfl rfl rfl ?_)
       | (refine W_pick_f rfl rfl rfl ?_)
       | (refine W_pick_b rfl rfl rfl rfl ?_)
     refine W_move rfl rfl ?_
     first
       | refine W_guard_lit_t rfl ?_
       | refine W_guard_lit_f rfl ?_
       | refine W_guard_lit_u rfl ?_
       | refine W_guard_split_d rfl rfl rfl (fun hg4 => ?_) (fun hg4 => ?_)
       | refine W_guard_split_n rfl rfl rfl (fun hg4 => ?_) (fun hg4 => ?_)
       | refine W_guard_split_nb rfl rfl rfl (fun hg4 => ?_) (fun hg4 => ?_)
       | refine W_guard_split rfl rfl rfl (fun hg4 => ?_) (fun hg4 => ?_)
     all_goals try (exfalso; first | omega | (simp only [Bool.false_eq_true, reduceCtorEq] at hg4; done) | (refine absurd hg4 ?_; with_reducible assumption) | (refine absurd ?_ hg4; with_reducible assumption))
     all_goals (
      first
        | (iterate 2 refine W_guard_no rfl rfl rfl ?_)
        | (iterate 2 refine W_guard_un rfl rfl ?_)
        | (refine W_guard_yes rfl ?_
           refine W_move rfl rfl ?_
           refine W_guard_yes rfl ?_
           first
             | (refine W_not_t rfl rfl ?_)
             | (refine W_not_f rfl rfl ?_)
             | (refine W_not rfl rfl ?_))
      first
        | (refine W_pick_t rfl rfl rfl ?_)
        | (refine W_pick_f rfl rfl rfl ?_)
        | (refine W_pick_b rfl rfl rfl rfl ?_)
      refine W_move rfl rfl ?_
      first
        | refine W_guard_lit_t rfl ?_
        | refine W_guard_lit_f rfl ?_
        | refine W_guard_lit_u rfl ?_
        | refine W_guard_split_d rfl rfl rfl (fun hg5 => ?_) (fun hg5 => ?_)
        | refine W_guard_split_n rfl rfl rfl (fun hg5 => ?_) (fun hg5 => ?_)
        | refine W_guard_split_nb rfl rfl rfl (fun hg5 => ?_) (fun hg5 => ?_)
        | refine W_guard_split rfl rfl rfl (fun hg5 => ?_) (fun hg5 => ?_)
      all_goals try (exfalso; first | omega | (simp only [Bool.false_eq_true, reduceCtorEq] at hg5; done) | (refine absurd hg5 ?_; with_reducible assumption) | (refine absurd ?_ hg5; with_reducible assumption))
      all_goals (
       first
         | (refine W_guard_no rfl rfl rfl ?_)
         | (refine W_guard_un rfl rfl ?_)
         | (refine W_guard_yes rfl ?_
            refine W_pcall hp rfl ((safe_spec [97] (by decide)).eq (r' := .bool true) (congrArg Value.bool (by decide +kernel))) rfl ?_
            clear hp; intro w hp)
       first
         | (refine W_pick_t rfl rfl rfl ?_)
         | (refine W_pick_f rfl rfl rfl ?_)
         | (refine W_pick_b rfl rfl rfl rfl ?_)
       refine W_move rfl rfl ?_
       first
         | refine W_guard_lit_t rfl ?_
         | refine W_guard_lit_f rfl ?_
         | refine W_guard_lit_u rfl ?_
         | refine W_guard_split_d rfl rfl rfl (fun hg6 => ?_) (fun hg6 => ?_)
         | refine W_guard_split_n rfl rfl rfl (fun hg6 => ?_) (fun hg6 => ?_)
         | refine W_guard_split_nb rfl rfl rfl (fun hg6 => ?_) (fun hg6 => ?_)
         | refine W_guard_split rfl rfl rfl (fun hg6 => ?_) (fun hg6 => ?_)
       all_goals try (exfalso; first | omega | (simp only [Bool.false_eq_true, reduceCtorEq] at hg6; done) | (refine absurd hg6 ?_; with_reducible assumption) | (refine absurd ?_ hg6; with_reducible assumption))
       all_goals (
        first
          | (iterate 2 refine W_guard_no rfl rfl rfl ?_)
          | (iterate 2 refine W_guard_un rfl rfl ?_)
          | (refine W_guard_yes rfl ?_
             refine W_pcall hp rfl ((safe_spec [97, 10] (by decide)).eq (r' := .bool false) (congrArg Value.bool (by decide +kernel))) rfl ?_
             clear hp; intro w hp
             refine W_guard_yes rfl ?_
             first
               | (refine W_not_t rfl rfl ?_)
               | (refine W_not_f rfl rfl ?_)
               | (refine W_not rfl rfl ?_))
        first
          | (refine W_pick_t rfl rfl rfl ?_)
          | (refine W_pick_f rfl rfl rfl ?_)
          | (refine W_pick_b rfl rfl rfl rfl ?_)
        refine W_move rfl rfl ?_
        first
          | refine W_guard_lit_t rfl ?_
          | refine W_guard_lit_f rfl ?_
          | refine W_guard_lit_u rfl ?_
          | refine W_guard_split_d rfl rfl rfl (fun hg7 => ?_) (fun hg7 => ?_)
          | refine W_guard_split_n rfl rfl rfl (fun hg7 => ?_) (fun hg7 => ?_)
          | refine W_guard_split_nb rfl rfl rfl (fun hg7 => ?_) (fun hg7 => ?_)
          | refine W_guard_split rfl rfl rfl (fun hg7 => ?_) (fun hg7 => ?_)
        all_goals try (exfalso; first | omega | (simp only [Bool.false_eq_true, reduceCtorEq] at hg7; done) | (refine absurd hg7 ?_; with_reducible assumption) | (refine absurd ?_ hg7; with_reducible assumption))
        all_goals (
         first
           | (iterate 2 refine W_guard_no rfl rfl rfl ?_)
           | (iterate 2 refine W_guard_un rfl rfl ?_)
           | (refine W_guard_yes rfl ?_
              refine W_pcall hp rfl ((clean_spec [97, 13, 10, 98] (by decide)).eq (r' := .string ⟨[97, 32, 32, 98].toArray⟩) (congrArg strV (by decide +kernel))) rfl ?_
              clear hp; intro w hp
              refine W_guard_yes rfl ?_
              first
                | (refine W_seql_t rfl rfl ?_ rfl ?_; (focus (first | rfl | assumption)))
                | (refine W_seql_f rfl rfl ?_ rfl ?_; (focus (first | assumption | decide | exact List.cons_ne_nil _ _)))
                | (refine W_seql rfl rfl rfl ?_))
         first
           | (refine W_pick_t rfl rfl rfl ?_)
           | (refine W_pick_f rfl rfl rfl ?_)
           | (refine W_pick_b rfl rfl rfl rfl ?_)
         refine W_assign rfl rfl ?_
         refine W_nil ?_
         refine N_then_k ?_
         refine K_ret ?_
         refine N_done1 (.inr rfl) rfl rfl ?_
         exact ⟨_, rfl, rfl, hp.nil⟩)))))))

theorem CleanSafe_walk (s : List UInt8) : PureF Try.prog 3 [.string ⟨s.toArray⟩] (.bool true) := by
  have hcl := cleanL_length s
  refine PureF.intro go3 Try.func3 rfl rfl fun w0 hp => ?_
  refine K_seq ?_
  refine K_region ?_
  refine W_assign rfl rfl ?_
  refine W_nil ?_
  refine N_then_k ?_
  refine K_seq ?_
  refine K_seq ?_
  refine K_region ?_
  refine W_pcall hp rfl (awake_spec) rfl ?_
  clear hp; intro w hp
  first
    | (refine W_not_t rfl rfl ?_)
    | (refine W_not_f rfl rfl ?_)
    | (refine W_not rfl rfl ?_)
  refine W_move rfl rfl ?_
  first
    | refine W_guard_lit_t rfl ?_
    | refine W_guard_lit_f rfl ?_
    | refine W_guard_lit_u rfl ?_
    | refine W_guard_split_d rfl rfl rfl (fun hg1 => ?_) (fun hg1 => ?_)
    | refine W_guard_split_n rfl rfl rfl (fun hg1 => ?_) (fun hg1 => ?_)
    | refine W_guard_split_nb rfl rfl rfl (fun hg1 => ?_) (fun hg1 => ?_)
    | refine W_guard_split rfl rfl rfl (fun hg1 => ?_) (fun hg1 => ?_)
  all_goals try (exfalso; first | omega | (simp only [Bool.false_eq_true, reduceCtorEq] at hg1; done) | (refine absurd hg1 ?_; with_reducible assumption) | (refine absurd ?_ hg1; with_reducible assumption))
  all_goals (
   first
     | (iterate 3 refine W_guard_no rfl rfl rfl ?_)
     | (iterate 3 refine W_guard_un rfl rfl ?_)
     | (refine W_guard_yes rfl ?_
        refine W_move rfl rfl ?_
        refine W_guard_yes rfl ?_
        refine W_len_s Try.underlying9 rfl rfl ?_
        refine W_guard_yes rfl ?_
        first
          | (refine W_gtr_t rfl rfl ?_ rfl ?_; (focus (omega)))
          | (refine W_gtr_f rfl rfl ?_ rfl ?_; (focus (omega)))
          | (refine W_gtr rfl rfl rfl ?_))
   first
     | (refine W_pick_t rfl rfl rfl ?_)
     | (refine W_pick_f rfl rfl rfl ?_)
     | (refine W_pick_b rfl rfl rfl rfl ?_)
   refine W_nil ?_
   refine N_then_k ?_
   first
     | refine K_cond_d rfl (fun hc2 => ?_) (fun hc2 => ?_)
     | refine K_cond_n rfl (fun hc2 => ?_) (fun hc2 => ?_)
     | refine K_cond_nb rfl (fun hc2 => ?_) (fun hc2 => ?_)
     | refine K_cond_t rfl (fun hc2 => ?_) (fun hc2 => ?_)
   · try (exfalso; first | omega | (simp only [Bool.false_eq_true, reduceCtorEq] at hc2; done) | (refine absurd hc2 ?_; with_reducible assumption) | (refine absurd ?_ hc2; with_reducible assumption))
     all_goals (
      refine K_seq ?_
      refine K_region ?_
      refine W_pcall hp rfl (awake_spec) rfl ?_
      clear hp; intro w hp
      refine W_assign rfl rfl ?_
      refine W_nil ?_
      refine N_then_k ?_
      refine K_ret ?_
      refine N_then_ret ?_
      refine N_done1 (.inr rfl) rfl rfl ?_
      exact ⟨_, rfl, rfl, hp.nil⟩)
   · try (exfalso; first | omega | (simp only [Bool.false_eq_true, reduceCtorEq] at hc2; done) | (refine absurd hc2 ?_; with_reducible assumption) | (refine absurd ?_ hc2; with_reducible assumption))
     all_goals (
      refine K_skip ?_
      refine N_then_k ?_
      refine K_seq ?_
      refine K_region ?_
      refine W_move rfl rfl ?_
      refine W_pcall hp rfl (clean_spec s (by omega)) rfl ?_
      clear hp; intro w hp
      refine W_assign rfl rfl ?_
      refine W_nil ?_
      refine N_then_k ?_
      refine K_seq ?_
      refine K_seq ?_
      refine K_region ?_
      refine W_move rfl rfl ?_
      refine W_move rfl rfl ?_
      refine W_pcall hp rfl (rclean_spec s (by omega)) rfl ?_
      clear hp; intro w hp
      first
        | (refine W_sneq_f rfl rfl ?_ rfl ?_; (focus (first | rfl | assumption)))
        | (refine W_sneq_t rfl rfl ?_ rfl ?_; (focus (first | assumption | decide | exact List.cons_ne_nil _ _)))
        | (refine W_sneq rfl rfl rfl ?_)
      refine W_move rfl rfl ?_
      first
        | refine W_guard_lit_t rfl ?_
        | refine W_guard_lit_f rfl ?_
        | refine W_guard_lit_u rfl ?_
        | refine W_guard_split_d rfl rfl rfl (fun hg3 => ?_) (fun hg3 => ?_)
        | refine W_guard_split_n rfl rfl rfl (fun hg3 => ?_) (fun hg3 => ?_)
        | refine W_guard_split_nb rfl rfl rfl (fun hg3 => ?_) (fun hg3 => ?_)
        | refine W_guard_split rfl rfl rfl (fun hg3 => ?_) (fun hg3 => ?_)
      all_goals try (exfalso; first | omega | (simp only [Bool.false_eq_true, reduceCtorEq] at hg3; done) | (refine absurd hg3 ?_; with_reducible assumption) | (refine absurd ?_ hg3; with_reducible assumption))
      all_goals (
       first
         | (iterate 5 refine W_guard_no rfl rfl rfl ?_)
         | (iterate 5 refine W_guard_un rfl rfl ?_)
         | (refine W_guard_yes rfl ?_
            refine W_move rfl rfl ?_
            refine W_guard_yes rfl ?_
            refine W_pcall hp rfl (safe_spec s (by omega)) rfl ?_
            clear hp; intro w hp
            refine W_guard_yes rfl ?_
            refine W_move rfl rfl ?_
            refine W_guard_yes rfl ?_
            refine W_pcall hp rfl (rsafe_spec s (by omega)) rfl ?_
            clear hp; intro w hp
            refine W_guard_yes rfl ?_
            first
              | (refine W_bneq_f Try.underlying4 rfl rfl rfl rfl ?_)
              | (refine W_bneq_t Try.underlying4 rfl rfl rfl rfl ?_)
              | (refine W_bneq Try.underlying4 rfl rfl rfl ?_))
       first
         | (refine W_pick_t rfl rfl rfl ?_)
         | (refine W_pick_f rfl rfl rfl ?_)
         | (refine W_pick_b rfl rfl rfl rfl ?_)
       refine W_move rfl rfl ?_
       first
         | refine W_guard_lit_t rfl ?_
         | refine W_guard_lit_f rfl ?_
         | refine W_guard_lit_u rfl ?_
         | refine W_guard_split_d rfl rfl rfl (fun hg4 => ?_) (fun hg4 => ?_)
         | refine W_guard_split_n rfl rfl rfl (fun hg4 => ?_) (fun hg4 => ?_)
         | refine W_guard_split_nb rfl rfl rfl (fun hg4 => ?_) (fun hg4 => ?_)
         | refine W_guard_split rfl rfl rfl (fun hg4 => ?_) (fun hg4 => ?_)
       all_goals try (exfalso; first | omega | (simp only [Bool.false_eq_true, reduceCtorEq] at hg4; done) | (refine absurd hg4 ?_; with_reducible assumption) | (refine absurd ?_ hg4; with_reducible assumption))
       all_goals (
        first
          | (iterate 3 refine W_guard_no rfl rfl rfl ?_)
          | (iterate 3 refine W_guard_un rfl rfl ?_)
          | (refine W_guard_yes rfl ?_
             refine W_move rfl rfl ?_
             refine W_guard_yes rfl ?_
             refine W_pcall hp rfl ((safe_spec (cleanL s) (by omega)).eq (congrArg Value.bool (safe_cleanL s))) rfl ?_
             clear hp; intro w hp
             refine W_guard_yes rfl ?_
             first
               | (refine W_not_t rfl rfl ?_)
               | (refine W_not_f rfl rfl ?_)
               | (refine W_not rfl rfl ?_))
        first
          | (refine W_pick_t rfl rfl rfl ?_)
          | (refine W_pick_f rfl rfl rfl ?_)
          | (refine W_pick_b rfl rfl rfl rfl ?_)
        refine W_move rfl rfl ?_
        first
          | refine W_guard_lit_t rfl ?_
          | refine W_guard_lit_f rfl ?_
          | refine W_guard_lit_u rfl ?_
          | refine W_guard_split_d rfl rfl rfl (fun hg5 => ?_) (fun hg5 => ?_)
          | refine W_guard_split_n rfl rfl rfl (fun hg5 => ?_) (fun hg5 => ?_)
          | refine W_guard_split_nb rfl rfl rfl (fun hg5 => ?_) (fun hg5 => ?_)
          | refine W_guard_split rfl rfl rfl (fun hg5 => ?_) (fun hg5 => ?_)
        all_goals try (exfalso; first | omega | (simp only [Bool.false_eq_true, reduceCtorEq] at hg5; done) | (refine absurd hg5 ?_; with_reducible assumption) | (refine absurd ?_ hg5; with_reducible assumption))
        all_goals (
         first
           | (iterate 4 refine W_guard_no rfl rfl rfl ?_)
           | (iterate 4 refine W_guard_un rfl rfl ?_)
           | (refine W_guard_yes rfl ?_
              refine W_move rfl rfl ?_
              refine W_guard_yes rfl ?_
              refine W_pcall hp rfl ((clean_spec (cleanL s) (by omega)).eq (congrArg strV (cleanL_cleanL s))) rfl ?_
              clear hp; intro w hp
              refine W_guard_yes rfl ?_
              refine W_move rfl rfl ?_
              refine W_guard_yes rfl ?_
              first
                | (refine W_sneq_f rfl rfl ?_ rfl ?_; (focus (first | rfl | assumption)))
                | (refine W_sneq_t rfl rfl ?_ rfl ?_; (focus (first | assumption | decide | exact List.cons_ne_nil _ _)))
                | (refine W_sneq rfl rfl rfl ?_))
         first
           | (refine W_pick_t rfl rfl rfl ?_)
           | (refine W_pick_f rfl rfl rfl ?_)
           | (refine W_pick_b rfl rfl rfl rfl ?_)
         refine W_move rfl rfl ?_
         first
           | refine W_guard_lit_t rfl ?_
           | refine W_guard_lit_f rfl ?_
           | refine W_guard_lit_u rfl ?_
           | refine W_guard_split_d rfl rfl rfl (fun hg6 => ?_) (fun hg6 => ?_)
           | refine W_guard_split_n rfl rfl rfl (fun hg6 => ?_) (fun hg6 => ?_)
           | refine W_guard_split_nb rfl rfl rfl (fun hg6 => ?_) (fun hg6 => ?_)
           | refine W_guard_split rfl rfl rfl (fun hg6 => ?_) (fun hg6 => ?_)
         all_goals try (exfalso; first | omega | (simp only [Bool.false_eq_true, reduceCtorEq] at hg6; done) | (refine absurd hg6 ?_; with_reducible assumption) | (refine absurd ?_ hg6; with_reducible assumption))
         all_goals (
          first
            | (iterate 5 refine W_guard_no rfl rfl rfl ?_)
            | (iterate 5 refine W_guard_un rfl rfl ?_)
            | (refine W_guard_yes rfl ?_
               refine W_move rfl rfl ?_
               refine W_guard_yes rfl ?_
               refine W_len_s Try.underlying9 rfl rfl ?_
               refine W_guard_yes rfl ?_
               refine W_move rfl rfl ?_
               refine W_guard_yes rfl ?_
               refine W_len_s Try.underlying9 rfl rfl ?_
               refine W_guard_yes rfl ?_
               first
                 | (refine W_neq_t rfl rfl ?_ rfl ?_; (focus (omega)))
                 | (refine W_neq_f rfl rfl ?_ rfl ?_; (focus (omega)))
                 | (refine W_neq rfl rfl rfl ?_))
          first
            | (refine W_pick_t rfl rfl rfl ?_)
            | (refine W_pick_f rfl rfl rfl ?_)
            | (refine W_pick_b rfl rfl rfl rfl ?_)
          refine W_nil ?_
          refine N_then_k ?_
          first
            | refine K_cond_d rfl (fun hc7 => ?_) (fun hc7 => ?_)
            | refine K_cond_n rfl (fun hc7 => ?_) (fun hc7 => ?_)
            | refine K_cond_nb rfl (fun hc7 => ?_) (fun hc7 => ?_)
            | refine K_cond_t rfl (fun hc7 => ?_) (fun hc7 => ?_)
          · try (exfalso; first | omega | (simp only [Bool.false_eq_true, reduceCtorEq] at hc7; done) | (refine absurd hc7 ?_; with_reducible assumption) | (refine absurd ?_ hc7; with_reducible assumption))
            all_goals (
             refine K_seq ?_
             refine K_region ?_
             refine W_assign rfl rfl ?_
             refine W_nil ?_
             refine N_then_k ?_
             refine K_ret ?_
             refine N_then_ret ?_
             refine N_done1 (.inr rfl) rfl rfl ?_
             exact ⟨_, rfl, rfl, hp.nil⟩)
          · try (exfalso; first | omega | (simp only [Bool.false_eq_true, reduceCtorEq] at hc7; done) | (refine absurd hc7 ?_; with_reducible assumption) | (refine absurd ?_ hc7; with_reducible assumption))
            all_goals (
             refine K_skip ?_
             refine N_then_k ?_
             refine K_seq ?_
             refine K_region ?_
             refine W_move rfl rfl ?_
             refine W_pcall hp rfl ((safe_spec s (by omega)).eq (congrArg Value.bool (safe_iff s))) rfl ?_
             clear hp; intro w hp
             refine W_move rfl rfl ?_
             refine W_move rfl rfl ?_
             first
               | (refine W_seql_t rfl rfl ?_ rfl ?_; (focus (first | rfl | assumption)))
               | (refine W_seql_f rfl rfl ?_ rfl ?_; (focus (first | assumption | decide | exact List.cons_ne_nil _ _)))
               | (refine W_seql rfl rfl rfl ?_)
             first
               | (refine W_beql_t Try.underlying4 rfl rfl rfl rfl ?_)
               | (refine W_beql_f Try.underlying4 rfl rfl rfl rfl ?_)
               | (refine W_beql Try.underlying4 rfl rfl rfl ?_)
             refine W_assign rfl rfl ?_
             refine W_nil ?_
             refine N_then_k ?_
             refine K_ret ?_
             refine N_done1 (.inr rfl) rfl rfl ?_
             exact ⟨_, rfl, rfl, hp.nil⟩)))))))

theorem CleanQuotes_walk (s : List UInt8) : PureF Try.prog 4 [.string ⟨s.toArray⟩] (.bool true) := by
  have hql := quote_length s
  refine PureF.intro go4 Try.func4 rfl rfl fun w0 hp => ?_
  refine K_seq ?_
  refine K_region ?_
  refine W_assign rfl rfl ?_
  refine W_nil ?_
  refine N_then_k ?_
  refine K_seq ?_
  refine K_seq ?_
  refine K_region ?_
  refine W_pcall hp rfl (awake_spec) rfl ?_
  clear hp; intro w hp
  first
    | (refine W_not_t rfl rfl ?_)
    | (refine W_not_f rfl rfl ?_)
    | (refine W_not rfl rfl ?_)
  refine W_move rfl rfl ?_
  first
    | refine W_guard_lit_t rfl ?_
    | refine W_guard_lit_f rfl ?_
    | refine W_guard_lit_u rfl ?_
    | refine W_guard_split_d rfl rfl rfl (fun hg1 => ?_) (fun hg1 => ?_)
    | refine W_guard_split_n rfl rfl rfl (fun hg1 => ?_) (fun hg1 => ?_)
    | refine W_guard_split_nb rfl rfl rfl (fun hg1 => ?_) (fun hg1 => ?_)
    | refine W_guard_split rfl rfl rfl (fun hg1 => ?_) (fun hg1 => ?_)
  all_goals try (exfalso; first | omega | (simp only [Bool.false_eq_true, reduceCtorEq] at hg1; done) | (refine absurd hg1 ?_; with_reducible assumption) | (refine absurd ?_ hg1; with_reducible assumption))
  all_goals (
   first
     | (iterate 3 refine W_guard_no rfl rfl rfl ?_)
     | (iterate 3 refine W_guard_un rfl rfl ?_)
     | (refine W_guard_yes rfl ?_
        refine W_move rfl rfl ?_
        refine W_guard_yes rfl ?_
        refine W_len_s Try.underlying9 rfl rfl ?_
        refine W_guard_yes rfl ?_
        first
          | (refine W_gtr_t rfl rfl ?_ rfl ?_; (focus (omega)))
          | (refine W_gtr_f rfl rfl ?_ rfl ?_; (focus (omega)))
          | (refine W_gtr rfl rfl rfl ?_))
   first
     | (refine W_pick_t rfl rfl rfl ?_)
     | (refine W_pick_f rfl rfl rfl ?_)
     | (refine W_pick_b rfl rfl rfl rfl ?_)
   refine W_nil ?_
   refine N_then_k ?_
   first
     | refine K_cond_d rfl (fun hc2 => ?_) (fun hc2 => ?_)
     | refine K_cond_n rfl (fun hc2 => ?_) (fun hc2 => ?_)
     | refine K_cond_nb rfl (fun hc2 => ?_) (fun hc2 => ?_)
     | refine K_cond_t rfl (fun hc2 => ?_) (fun hc2 => ?_)
   · try (exfalso; first | omega | (simp only [Bool.false_eq_true, reduceCtorEq] at hc2; done) | (refine absurd hc2 ?_; with_reducible assumption) | (refine absurd ?_ hc2; with_reducible assumption))
     all_goals (
      refine K_seq ?_
      refine K_region ?_
      refine W_pcall hp rfl (awake_spec) rfl ?_
      clear hp; intro w hp
      refine W_assign rfl rfl ?_
      refine W_nil ?_
      refine N_then_k ?_
      refine K_ret ?_
      refine N_then_ret ?_
      refine N_done1 (.inr rfl) rfl rfl ?_
      exact ⟨_, rfl, rfl, hp.nil⟩)
   · try (exfalso; first | omega | (simp only [Bool.false_eq_true, reduceCtorEq] at hc2; done) | (refine absurd hc2 ?_; with_reducible assumption) | (refine absurd ?_ hc2; with_reducible assumption))
     all_goals (
      refine K_skip ?_
      refine N_then_k ?_
      refine K_seq ?_
      refine K_region ?_
      rcases Bool.eq_false_or_eq_true (s.all fieldB) with hf | hf
      all_goals (
       refine W_move rfl rfl ?_
       first
         | (refine W_pcall hp rfl (quote_ok s (by omega) hf) rfl ?_)
         | (refine W_pcall hp rfl (quote_no s (by omega) hf) rfl ?_)
       clear hp; intro w hp
       refine W_move rfl rfl ?_
       refine W_extract rfl rfl rfl ?_
       refine W_extract rfl rfl rfl ?_
       refine W_assign rfl rfl ?_
       refine W_assign rfl rfl ?_
       refine W_nil ?_
       refine N_then_k ?_
       refine K_seq ?_
       refine K_region ?_
       refine W_move rfl rfl ?_
       first
         | (refine W_pcall hp rfl (rquote_ok s (by omega) hf) rfl ?_)
         | (refine W_pcall hp rfl (rquote_no s (by omega) hf) rfl ?_)
       clear hp; intro w hp
       refine W_move rfl rfl ?_
       refine W_extract rfl rfl rfl ?_
       refine W_extract rfl rfl rfl ?_
       refine W_assign rfl rfl ?_
       refine W_assign rfl rfl ?_
       refine W_nil ?_
       refine N_then_k ?_
       refine K_seq ?_
       refine K_seq ?_
       refine K_region ?_
       refine W_move rfl rfl ?_
       refine W_move rfl rfl ?_
       first
         | (refine W_sneq_f rfl rfl ?_ rfl ?_; (focus (first | rfl | assumption)))
         | (refine W_sneq_t rfl rfl ?_ rfl ?_; (focus (first | assumption | decide | exact List.cons_ne_nil _ _)))
         | (refine W_sneq rfl rfl rfl ?_)
       refine W_move rfl rfl ?_
       first
         | refine W_guard_lit_t rfl ?_
         | refine W_guard_lit_f rfl ?_
         | refine W_guard_lit_u rfl ?_
         | refine W_guard_split_d rfl rfl rfl (fun hg3 => ?_) (fun hg3 => ?_)
         | refine W_guard_split_n rfl rfl rfl (fun hg3 => ?_) (fun hg3 => ?_)
         | refine W_guard_split_nb rfl rfl rfl (fun hg3 => ?_) (fun hg3 => ?_)
         | refine W_guard_split rfl rfl rfl (fun hg3 => ?_) (fun hg3 => ?_)
       all_goals try (exfalso; first | omega | (simp only [Bool.false_eq_true, reduceCtorEq] at hg3; done) | (refine absurd hg3 ?_; with_reducible assumption) | (refine absurd ?_ hg3; with_reducible assumption))
       all_goals (
        first
          | (iterate 3 refine W_guard_no rfl rfl rfl ?_)
          | (iterate 3 refine W_guard_un rfl rfl ?_)
          | (refine W_guard_yes rfl ?_
             refine W_move rfl rfl ?_
             refine W_guard_yes rfl ?_
             refine W_move rfl rfl ?_
             refine W_guard_yes rfl ?_
             first
               | (refine W_bneq_f Try.underlying4 rfl rfl rfl rfl ?_)
               | (refine W_bneq_t Try.underlying4 rfl rfl rfl rfl ?_)
               | (refine W_bneq Try.underlying4 rfl rfl rfl ?_))
        first
          | (refine W_pick_t rfl rfl rfl ?_)
          | (refine W_pick_f rfl rfl rfl ?_)
          | (refine W_pick_b rfl rfl rfl rfl ?_)
        refine W_nil ?_
        refine N_then_k ?_
        first
          | refine K_cond_d rfl (fun hc4 => ?_) (fun hc4 => ?_)
          | refine K_cond_n rfl (fun hc4 => ?_) (fun hc4 => ?_)
          | refine K_cond_nb rfl (fun hc4 => ?_) (fun hc4 => ?_)
          | refine K_cond_t rfl (fun hc4 => ?_) (fun hc4 => ?_)
        · try (exfalso; first | omega | (simp only [Bool.false_eq_true, reduceCtorEq] at hc4; done) | (refine absurd hc4 ?_; with_reducible assumption) | (refine absurd ?_ hc4; with_reducible assumption))
          all_goals (
           refine K_seq ?_
           refine K_region ?_
           refine W_assign rfl rfl ?_
           refine W_nil ?_
           refine N_then_k ?_
           refine K_ret ?_
           refine N_then_ret ?_
           refine N_done1 (.inr rfl) rfl rfl ?_
           exact ⟨_, rfl, rfl, hp.nil⟩)
        · try (exfalso; first | omega | (simp only [Bool.false_eq_true, reduceCtorEq] at hc4; done) | (refine absurd hc4 ?_; with_reducible assumption) | (refine absurd ?_ hc4; with_reducible assumption))
          all_goals (
           refine K_skip ?_
           refine N_then_k ?_
           refine K_seq ?_
           refine K_seq ?_
           refine K_region ?_
           refine W_move rfl rfl ?_
           first
             | (refine W_not_t rfl rfl ?_)
             | (refine W_not_f rfl rfl ?_)
             | (refine W_not rfl rfl ?_)
           refine W_nil ?_
           refine N_then_k ?_
           first
             | refine K_cond_d rfl (fun hc5 => ?_) (fun hc5 => ?_)
             | refine K_cond_n rfl (fun hc5 => ?_) (fun hc5 => ?_)
             | refine K_cond_nb rfl (fun hc5 => ?_) (fun hc5 => ?_)
             | refine K_cond_t rfl (fun hc5 => ?_) (fun hc5 => ?_)
           · try (exfalso; first | omega | (simp only [Bool.false_eq_true, reduceCtorEq] at hc5; done) | (refine absurd hc5 ?_; with_reducible assumption) | (refine absurd ?_ hc5; with_reducible assumption))
             all_goals (
              refine K_seq ?_
              refine K_region ?_
              refine W_move rfl rfl ?_
              refine W_pcall hp rfl ((rall5_spec s (by omega)).eq (congrArg Value.bool hf)) rfl ?_
              clear hp; intro w hp
              first
                | (refine W_not_t rfl rfl ?_)
                | (refine W_not_f rfl rfl ?_)
                | (refine W_not rfl rfl ?_)
              refine W_assign rfl rfl ?_
              refine W_nil ?_
              refine N_then_k ?_
              refine K_ret ?_
              refine N_then_ret ?_
              refine N_done1 (.inr rfl) rfl rfl ?_
              exact ⟨_, rfl, rfl, hp.nil⟩)
           · try (exfalso; first | omega | (simp only [Bool.false_eq_true, reduceCtorEq] at hc5; done) | (refine absurd hc5 ?_; with_reducible assumption) | (refine absurd ?_ hc5; with_reducible assumption))
             all_goals (
              refine K_skip ?_
              refine N_then_k ?_
              refine K_seq ?_
              refine K_region ?_
              refine W_move rfl rfl ?_
              refine W_pcall hp rfl ((unquote_spec (quote s) (by omega)).eq (uqR_some (quote_uq hf))) rfl ?_
              clear hp; intro w hp
              refine W_move rfl rfl ?_
              refine W_extract rfl rfl rfl ?_
              refine W_extract rfl rfl rfl ?_
              refine W_assign rfl rfl ?_
              refine W_assign rfl rfl ?_
              refine W_nil ?_
              refine N_then_k ?_
              refine K_seq ?_
              refine K_region ?_
              refine W_move rfl rfl ?_
              refine W_move rfl rfl ?_
              first
                | refine W_guard_lit_t rfl ?_
                | refine W_guard_lit_f rfl ?_
                | refine W_guard_lit_u rfl ?_
                | refine W_guard_split_d rfl rfl rfl (fun hg6 => ?_) (fun hg6 => ?_)
                | refine W_guard_split_n rfl rfl rfl (fun hg6 => ?_) (fun hg6 => ?_)
                | refine W_guard_split_nb rfl rfl rfl (fun hg6 => ?_) (fun hg6 => ?_)
                | refine W_guard_split rfl rfl rfl (fun hg6 => ?_) (fun hg6 => ?_)
              all_goals try (exfalso; first | omega | (simp only [Bool.false_eq_true, reduceCtorEq] at hg6; done) | (refine absurd hg6 ?_; with_reducible assumption) | (refine absurd ?_ hg6; with_reducible assumption))
              all_goals (
               first
                 | (iterate 3 refine W_guard_no rfl rfl rfl ?_)
                 | (iterate 3 refine W_guard_un rfl rfl ?_)
                 | (refine W_guard_yes rfl ?_
                    refine W_move rfl rfl ?_
                    refine W_guard_yes rfl ?_
                    refine W_move rfl rfl ?_
                    refine W_guard_yes rfl ?_
                    first
                      | (refine W_seql_t rfl rfl ?_ rfl ?_; (focus (first | rfl | assumption)))
                      | (refine W_seql_f rfl rfl ?_ rfl ?_; (focus (first | assumption | decide | exact List.cons_ne_nil _ _)))
                      | (refine W_seql rfl rfl rfl ?_))
               first
                 | (refine W_pick_t rfl rfl rfl ?_)
                 | (refine W_pick_f rfl rfl rfl ?_)
                 | (refine W_pick_b rfl rfl rfl rfl ?_)
               refine W_move rfl rfl ?_
               first
                 | refine W_guard_lit_t rfl ?_
                 | refine W_guard_lit_f rfl ?_
                 | refine W_guard_lit_u rfl ?_
                 | refine W_guard_split_d rfl rfl rfl (fun hg7 => ?_) (fun hg7 => ?_)
                 | refine W_guard_split_n rfl rfl rfl (fun hg7 => ?_) (fun hg7 => ?_)
                 | refine W_guard_split_nb rfl rfl rfl (fun hg7 => ?_) (fun hg7 => ?_)
                 | refine W_guard_split rfl rfl rfl (fun hg7 => ?_) (fun hg7 => ?_)
               all_goals try (exfalso; first | omega | (simp only [Bool.false_eq_true, reduceCtorEq] at hg7; done) | (refine absurd hg7 ?_; with_reducible assumption) | (refine absurd ?_ hg7; with_reducible assumption))
               all_goals (
                first
                  | (iterate 2 refine W_guard_no rfl rfl rfl ?_)
                  | (iterate 2 refine W_guard_un rfl rfl ?_)
                  | (refine W_guard_yes rfl ?_
                     refine W_move rfl rfl ?_
                     refine W_guard_yes rfl ?_
                     refine W_pcall hp rfl ((safe_spec (quote s) (by omega)).eq (congrArg Value.bool (safe_quote hf))) rfl ?_
                     clear hp; intro w hp)
                first
                  | (refine W_pick_t rfl rfl rfl ?_)
                  | (refine W_pick_f rfl rfl rfl ?_)
                  | (refine W_pick_b rfl rfl rfl rfl ?_)
                refine W_assign rfl rfl ?_
                refine W_nil ?_
                refine N_then_k ?_
                refine K_ret ?_
                refine N_done1 (.inr rfl) rfl rfl ?_
                exact ⟨_, rfl, rfl, hp.nil⟩))))))))

theorem CleanUnquotes_walk (s : List UInt8) : PureF Try.prog 5 [.string ⟨s.toArray⟩] (.bool true) := by
  refine PureF.intro go5 Try.func5 rfl rfl fun w0 hp => ?_
  refine K_seq ?_
  refine K_region ?_
  refine W_assign rfl rfl ?_
  refine W_nil ?_
  refine N_then_k ?_
  refine K_seq ?_
  refine K_seq ?_
  refine K_region ?_
  refine W_pcall hp rfl (awake_spec) rfl ?_
  clear hp; intro w hp
  first
    | (refine W_not_t rfl rfl ?_)
    | (refine W_not_f rfl rfl ?_)
    | (refine W_not rfl rfl ?_)
  refine W_move rfl rfl ?_
  first
    | refine W_guard_lit_t rfl ?_
    | refine W_guard_lit_f rfl ?_
    | refine W_guard_lit_u rfl ?_
    | refine W_guard_split_d rfl rfl rfl (fun hg1 => ?_) (fun hg1 => ?_)
    | refine W_guard_split_n rfl rfl rfl (fun hg1 => ?_) (fun hg1 => ?_)
    | refine W_guard_split_nb rfl rfl rfl (fun hg1 => ?_) (fun hg1 => ?_)
    | refine W_guard_split rfl rfl rfl (fun hg1 => ?_) (fun hg1 => ?_)
  all_goals try (exfalso; first | omega | (simp only [Bool.false_eq_true, reduceCtorEq] at hg1; done) | (refine absurd hg1 ?_; with_reducible assumption) | (refine absurd ?_ hg1; with_reducible assumption))
  all_goals (
   first
     | (iterate 3 refine W_guard_no rfl rfl rfl ?_)
     | (iterate 3 refine W_guard_un rfl rfl ?_)
     | (refine W_guard_yes rfl ?_
        refine W_move rfl rfl ?_
        refine W_guard_yes rfl ?_
        refine W_len_s Try.underlying9 rfl rfl ?_
        refine W_guard_yes rfl ?_
        first
          | (refine W_gtr_t rfl rfl ?_ rfl ?_; (focus (omega)))
          | (refine W_gtr_f rfl rfl ?_ rfl ?_; (focus (omega)))
          | (refine W_gtr rfl rfl rfl ?_))
   first
     | (refine W_pick_t rfl rfl rfl ?_)
     | (refine W_pick_f rfl rfl rfl ?_)
     | (refine W_pick_b rfl rfl rfl rfl ?_)
   refine W_nil ?_
   refine N_then_k ?_
   first
     | refine K_cond_d rfl (fun hc2 => ?_) (fun hc2 => ?_)
     | refine K_cond_n rfl (fun hc2 => ?_) (fun hc2 => ?_)
     | refine K_cond_nb rfl (fun hc2 => ?_) (fun hc2 => ?_)
     | refine K_cond_t rfl (fun hc2 => ?_) (fun hc2 => ?_)
   · try (exfalso; first | omega | (simp only [Bool.false_eq_true, reduceCtorEq] at hc2; done) | (refine absurd hc2 ?_; with_reducible assumption) | (refine absurd ?_ hc2; with_reducible assumption))
     all_goals (
      refine K_seq ?_
      refine K_region ?_
      refine W_pcall hp rfl (awake_spec) rfl ?_
      clear hp; intro w hp
      refine W_assign rfl rfl ?_
      refine W_nil ?_
      refine N_then_k ?_
      refine K_ret ?_
      refine N_then_ret ?_
      refine N_done1 (.inr rfl) rfl rfl ?_
      exact ⟨_, rfl, rfl, hp.nil⟩)
   · try (exfalso; first | omega | (simp only [Bool.false_eq_true, reduceCtorEq] at hc2; done) | (refine absurd hc2 ?_; with_reducible assumption) | (refine absurd ?_ hc2; with_reducible assumption))
     all_goals (
      refine K_skip ?_
      refine N_then_k ?_
      refine K_seq ?_
      refine K_region ?_
      rcases hu : unquote s with _ | t
      all_goals (
       refine W_move rfl rfl ?_
       first
         | (refine W_pcall hp rfl ((unquote_spec s (by omega)).eq (uqR_none hu)) rfl ?_)
         | (refine W_pcall hp rfl ((unquote_spec s (by omega)).eq (uqR_some hu)) rfl ?_)
       clear hp; intro w hp
       refine W_move rfl rfl ?_
       refine W_extract rfl rfl rfl ?_
       refine W_extract rfl rfl rfl ?_
       refine W_assign rfl rfl ?_
       refine W_assign rfl rfl ?_
       refine W_nil ?_
       refine N_then_k ?_
       refine K_seq ?_
       refine K_region ?_
       refine W_move rfl rfl ?_
       first
         | (refine W_pcall hp rfl ((runquote_spec s (by omega)).eq (uqR_none hu)) rfl ?_)
         | (refine W_pcall hp rfl ((runquote_spec s (by omega)).eq (uqR_some hu)) rfl ?_)
       clear hp; intro w hp
       refine W_move rfl rfl ?_
       refine W_extract rfl rfl rfl ?_
       refine W_extract rfl rfl rfl ?_
       refine W_assign rfl rfl ?_
       refine W_assign rfl rfl ?_
       refine W_nil ?_
       refine N_then_k ?_
       refine K_seq ?_
       refine K_seq ?_
       refine K_region ?_
       refine W_move rfl rfl ?_
       refine W_move rfl rfl ?_
       first
         | (refine W_sneq_f rfl rfl ?_ rfl ?_; (focus (first | rfl | assumption)))
         | (refine W_sneq_t rfl rfl ?_ rfl ?_; (focus (first | assumption | decide | exact List.cons_ne_nil _ _)))
         | (refine W_sneq rfl rfl rfl ?_)
       refine W_move rfl rfl ?_
       first
         | refine W_guard_lit_t rfl ?_
         | refine W_guard_lit_f rfl ?_
         | refine W_guard_lit_u rfl ?_
         | refine W_guard_split_d rfl rfl rfl (fun hg3 => ?_) (fun hg3 => ?_)
         | refine W_guard_split_n rfl rfl rfl (fun hg3 => ?_) (fun hg3 => ?_)
         | refine W_guard_split_nb rfl rfl rfl (fun hg3 => ?_) (fun hg3 => ?_)
         | refine W_guard_split rfl rfl rfl (fun hg3 => ?_) (fun hg3 => ?_)
       all_goals try (exfalso; first | omega | (simp only [Bool.false_eq_true, reduceCtorEq] at hg3; done) | (refine absurd hg3 ?_; with_reducible assumption) | (refine absurd ?_ hg3; with_reducible assumption))
       all_goals (
        first
          | (iterate 3 refine W_guard_no rfl rfl rfl ?_)
          | (iterate 3 refine W_guard_un rfl rfl ?_)
          | (refine W_guard_yes rfl ?_
             refine W_move rfl rfl ?_
             refine W_guard_yes rfl ?_
             refine W_move rfl rfl ?_
             refine W_guard_yes rfl ?_
             first
               | (refine W_bneq_f Try.underlying4 rfl rfl rfl rfl ?_)
               | (refine W_bneq_t Try.underlying4 rfl rfl rfl rfl ?_)
               | (refine W_bneq Try.underlying4 rfl rfl rfl ?_))
        first
          | (refine W_pick_t rfl rfl rfl ?_)
          | (refine W_pick_f rfl rfl rfl ?_)
          | (refine W_pick_b rfl rfl rfl rfl ?_)
        refine W_nil ?_
        refine N_then_k ?_
        first
          | refine K_cond_d rfl (fun hc4 => ?_) (fun hc4 => ?_)
          | refine K_cond_n rfl (fun hc4 => ?_) (fun hc4 => ?_)
          | refine K_cond_nb rfl (fun hc4 => ?_) (fun hc4 => ?_)
          | refine K_cond_t rfl (fun hc4 => ?_) (fun hc4 => ?_)
        · try (exfalso; first | omega | (simp only [Bool.false_eq_true, reduceCtorEq] at hc4; done) | (refine absurd hc4 ?_; with_reducible assumption) | (refine absurd ?_ hc4; with_reducible assumption))
          all_goals (
           refine K_seq ?_
           refine K_region ?_
           refine W_assign rfl rfl ?_
           refine W_nil ?_
           refine N_then_k ?_
           refine K_ret ?_
           refine N_then_ret ?_
           refine N_done1 (.inr rfl) rfl rfl ?_
           exact ⟨_, rfl, rfl, hp.nil⟩)
        · try (exfalso; first | omega | (simp only [Bool.false_eq_true, reduceCtorEq] at hc4; done) | (refine absurd hc4 ?_; with_reducible assumption) | (refine absurd ?_ hc4; with_reducible assumption))
          all_goals (
           refine K_skip ?_
           refine N_then_k ?_
           refine K_seq ?_
           refine K_seq ?_
           refine K_region ?_
           refine W_move rfl rfl ?_
           first
             | (refine W_not_t rfl rfl ?_)
             | (refine W_not_f rfl rfl ?_)
             | (refine W_not rfl rfl ?_)
           refine W_nil ?_
           refine N_then_k ?_
           first
             | refine K_cond_d rfl (fun hc5 => ?_) (fun hc5 => ?_)
             | refine K_cond_n rfl (fun hc5 => ?_) (fun hc5 => ?_)
             | refine K_cond_nb rfl (fun hc5 => ?_) (fun hc5 => ?_)
             | refine K_cond_t rfl (fun hc5 => ?_) (fun hc5 => ?_)
           · try (exfalso; first | omega | (simp only [Bool.false_eq_true, reduceCtorEq] at hc5; done) | (refine absurd hc5 ?_; with_reducible assumption) | (refine absurd ?_ hc5; with_reducible assumption))
             all_goals (
              refine K_seq ?_
              refine K_region ?_
              refine W_assign rfl rfl ?_
              refine W_nil ?_
              refine N_then_k ?_
              refine K_ret ?_
              refine N_then_ret ?_
              refine N_done1 (.inr rfl) rfl rfl ?_
              exact ⟨_, rfl, rfl, hp.nil⟩)
           · try (exfalso; first | omega | (simp only [Bool.false_eq_true, reduceCtorEq] at hc5; done) | (refine absurd hc5 ?_; with_reducible assumption) | (refine absurd ?_ hc5; with_reducible assumption))
             all_goals (
              refine K_skip ?_
              refine N_then_k ?_
              refine K_seq ?_
              refine K_region ?_
              obtain ⟨hq, hf⟩ := unquote_some.1 hu
              have htl : t.length ≤ s.length := by rw [hq, quote_count]; omega
              refine W_move rfl rfl ?_
              refine W_pcall hp rfl ((quote_ok t (by omega) hf).eq (r' := .tuple #[.string ⟨s.toArray⟩, .bool true]) (by rw [hq])) rfl ?_
              clear hp; intro w hp
              refine W_move rfl rfl ?_
              refine W_extract rfl rfl rfl ?_
              refine W_extract rfl rfl rfl ?_
              refine W_assign rfl rfl ?_
              refine W_assign rfl rfl ?_
              refine W_nil ?_
              refine N_then_k ?_
              refine K_seq ?_
              refine K_region ?_
              refine W_move rfl rfl ?_
              refine W_move rfl rfl ?_
              first
                | refine W_guard_lit_t rfl ?_
                | refine W_guard_lit_f rfl ?_
                | refine W_guard_lit_u rfl ?_
                | refine W_guard_split_d rfl rfl rfl (fun hg6 => ?_) (fun hg6 => ?_)
                | refine W_guard_split_n rfl rfl rfl (fun hg6 => ?_) (fun hg6 => ?_)
                | refine W_guard_split_nb rfl rfl rfl (fun hg6 => ?_) (fun hg6 => ?_)
                | refine W_guard_split rfl rfl rfl (fun hg6 => ?_) (fun hg6 => ?_)
              all_goals try (exfalso; first | omega | (simp only [Bool.false_eq_true, reduceCtorEq] at hg6; done) | (refine absurd hg6 ?_; with_reducible assumption) | (refine absurd ?_ hg6; with_reducible assumption))
              all_goals (
               first
                 | (iterate 3 refine W_guard_no rfl rfl rfl ?_)
                 | (iterate 3 refine W_guard_un rfl rfl ?_)
                 | (refine W_guard_yes rfl ?_
                    refine W_move rfl rfl ?_
                    refine W_guard_yes rfl ?_
                    refine W_move rfl rfl ?_
                    refine W_guard_yes rfl ?_
                    first
                      | (refine W_seql_t rfl rfl ?_ rfl ?_; (focus (first | rfl | assumption)))
                      | (refine W_seql_f rfl rfl ?_ rfl ?_; (focus (first | assumption | decide | exact List.cons_ne_nil _ _)))
                      | (refine W_seql rfl rfl rfl ?_))
               first
                 | (refine W_pick_t rfl rfl rfl ?_)
                 | (refine W_pick_f rfl rfl rfl ?_)
                 | (refine W_pick_b rfl rfl rfl rfl ?_)
               refine W_assign rfl rfl ?_
               refine W_nil ?_
               refine N_then_k ?_
               refine K_ret ?_
               refine N_done1 (.inr rfl) rfl rfl ?_
               exact ⟨_, rfl, rfl, hp.nil⟩)))))))

theorem CleanJoins_walk (a b : List UInt8) : PureF Try.prog 6 [.string ⟨a.toArray⟩, .string ⟨b.toArray⟩] (.bool true) := by
  have hla := cleanL_length a
  have hlb := cleanL_length b
  have hab : (a ++ b).length = a.length + b.length := List.length_append
  have hj := quote_join a b
  have hqa := quote_count a
  have hqb := quote_count b
  have hqa2 := quote_length a
  have hqb2 := quote_length b
  have hall : (a ++ b).all fieldB = (a.all fieldB && b.all fieldB) := List.all_append ..
  refine PureF.intro go6 Try.func6 rfl rfl fun w0 hp => ?_
  refine K_seq ?_
  refine K_region ?_
  refine W_assign rfl rfl ?_
  refine W_nil ?_
  refine N_then_k ?_
  refine K_seq ?_
  refine K_seq ?_
  refine K_region ?_
  refine W_pcall hp rfl (awake_spec) rfl ?_
  clear hp; intro w hp
  first
    | (refine W_not_t rfl rfl ?_)
    | (refine W_not_f rfl rfl ?_)
    | (refine W_not rfl rfl ?_)
  refine W_move rfl rfl ?_
  first
    | refine W_guard_lit_t rfl ?_
    | refine W_guard_lit_f rfl ?_
    | refine W_guard_lit_u rfl ?_
    | refine W_guard_split_d rfl rfl rfl (fun hg1 => ?_) (fun hg1 => ?_)
    | refine W_guard_split_n rfl rfl rfl (fun hg1 => ?_) (fun hg1 => ?_)
    | refine W_guard_split_nb rfl rfl rfl (fun hg1 => ?_) (fun hg1 => ?_)
    | refine W_guard_split rfl rfl rfl (fun hg1 => ?_) (fun hg1 => ?_)
  all_goals try (exfalso; first | omega | (simp only [Bool.false_eq_true, reduceCtorEq] at hg1; done) | (refine absurd hg1 ?_; with_reducible assumption) | (refine absurd ?_ hg1; with_reducible assumption))
  all_goals (
   first
     | (iterate 3 refine W_guard_no rfl rfl rfl ?_)
     | (iterate 3 refine W_guard_un rfl rfl ?_)
     | (refine W_guard_yes rfl ?_
        refine W_move rfl rfl ?_
        refine W_guard_yes rfl ?_
        refine W_len_s Try.underlying9 rfl rfl ?_
        refine W_guard_yes rfl ?_
        first
          | (refine W_gtr_t rfl rfl ?_ rfl ?_; (focus (omega)))
          | (refine W_gtr_f rfl rfl ?_ rfl ?_; (focus (omega)))
          | (refine W_gtr rfl rfl rfl ?_))
   first
     | (refine W_pick_t rfl rfl rfl ?_)
     | (refine W_pick_f rfl rfl rfl ?_)
     | (refine W_pick_b rfl rfl rfl rfl ?_)
   refine W_move rfl rfl ?_
   first
     | refine W_guard_lit_t rfl ?_
     | refine W_guard_lit_f rfl ?_
     | refine W_guard_lit_u rfl ?_
     | refine W_guard_split_d rfl rfl rfl (fun hg2 => ?_) (fun hg2 => ?_)
     | refine W_guard_split_n rfl rfl rfl (fun hg2 => ?_) (fun hg2 => ?_)
     | refine W_guard_split_nb rfl rfl rfl (fun hg2 => ?_) (fun hg2 => ?_)
     | refine W_guard_split rfl rfl rfl (fun hg2 => ?_) (fun hg2 => ?_)
   all_goals try (exfalso; first | omega | (simp only [Bool.false_eq_true, reduceCtorEq] at hg2; done) | (refine absurd hg2 ?_; with_reducible assumption) | (refine absurd ?_ hg2; with_reducible assumption))
   all_goals (
    first
      | (iterate 3 refine W_guard_no rfl rfl rfl ?_)
      | (iterate 3 refine W_guard_un rfl rfl ?_)
      | (refine W_guard_yes rfl ?_
         refine W_move rfl rfl ?_
         refine W_guard_yes rfl ?_
         refine W_len_s Try.underlying9 rfl rfl ?_
         refine W_guard_yes rfl ?_
         first
           | (refine W_gtr_t rfl rfl ?_ rfl ?_; (focus (omega)))
           | (refine W_gtr_f rfl rfl ?_ rfl ?_; (focus (omega)))
           | (refine W_gtr rfl rfl rfl ?_))
    first
      | (refine W_pick_t rfl rfl rfl ?_)
      | (refine W_pick_f rfl rfl rfl ?_)
      | (refine W_pick_b rfl rfl rfl rfl ?_)
    refine W_nil ?_
    refine N_then_k ?_
    first
      | refine K_cond_d rfl (fun hc3 => ?_) (fun hc3 => ?_)
      | refine K_cond_n rfl (fun hc3 => ?_) (fun hc3 => ?_)
      | refine K_cond_nb rfl (fun hc3 => ?_) (fun hc3 => ?_)
      | refine K_cond_t rfl (fun hc3 => ?_) (fun hc3 => ?_)
    · try (exfalso; first | omega | (simp only [Bool.false_eq_true, reduceCtorEq] at hc3; done) | (refine absurd hc3 ?_; with_reducible assumption) | (refine absurd ?_ hc3; with_reducible assumption))
      all_goals (
       refine K_seq ?_
       refine K_region ?_
       refine W_pcall hp rfl (awake_spec) rfl ?_
       clear hp; intro w hp
       refine W_assign rfl rfl ?_
       refine W_nil ?_
       refine N_then_k ?_
       refine K_ret ?_
       refine N_then_ret ?_
       refine N_done1 (.inr rfl) rfl rfl ?_
       exact ⟨_, rfl, rfl, hp.nil⟩)
    · try (exfalso; first | omega | (simp only [Bool.false_eq_true, reduceCtorEq] at hc3; done) | (refine absurd hc3 ?_; with_reducible assumption) | (refine absurd ?_ hc3; with_reducible assumption))
      all_goals (
       refine K_skip ?_
       refine N_then_k ?_
       refine K_seq ?_
       refine K_seq ?_
       refine K_region ?_
       rcases hsa : safe a <;> rcases hsb : safe b
       all_goals (
        refine W_move rfl rfl ?_
        refine W_move rfl rfl ?_
        refine W_sadd rfl rfl ?_ rfl ?_
        (focus (first | omega | (simp only [List.length_append, List.length_cons, List.length_nil, List.length_drop, List.length_take] at *; omega) | (simp; omega)))
        refine W_pcall hp rfl ((clean_spec (a ++ b) (by omega)).eq (congrArg strV (cleanL_append a b))) rfl ?_
        clear hp; intro w hp
        refine W_move rfl rfl ?_
        refine W_pcall hp rfl (clean_spec a (by omega)) rfl ?_
        clear hp; intro w hp
        refine W_move rfl rfl ?_
        refine W_pcall hp rfl (clean_spec b (by omega)) rfl ?_
        clear hp; intro w hp
        refine W_sadd rfl rfl ?_ rfl ?_
        (focus (first | omega | (simp only [List.length_append, List.length_cons, List.length_nil, List.length_drop, List.length_take] at *; omega) | (simp; omega)))
        first
          | (refine W_sneq_f rfl rfl ?_ rfl ?_; (focus (first | rfl | assumption)))
          | (refine W_sneq_t rfl rfl ?_ rfl ?_; (focus (first | assumption | decide | exact List.cons_ne_nil _ _)))
          | (refine W_sneq rfl rfl rfl ?_)
        refine W_move rfl rfl ?_
        first
          | refine W_guard_lit_t rfl ?_
          | refine W_guard_lit_f rfl ?_
          | refine W_guard_lit_u rfl ?_
          | refine W_guard_split_d rfl rfl rfl (fun hg4 => ?_) (fun hg4 => ?_)
          | refine W_guard_split_n rfl rfl rfl (fun hg4 => ?_) (fun hg4 => ?_)
          | refine W_guard_split_nb rfl rfl rfl (fun hg4 => ?_) (fun hg4 => ?_)
          | refine W_guard_split rfl rfl rfl (fun hg4 => ?_) (fun hg4 => ?_)
        all_goals try (exfalso; first | omega | (simp only [Bool.false_eq_true, reduceCtorEq] at hg4; done) | (refine absurd hg4 ?_; with_reducible assumption) | (refine absurd ?_ hg4; with_reducible assumption))
        all_goals (
         first
           | (iterate 7 refine W_guard_no rfl rfl rfl ?_)
           | (iterate 7 refine W_guard_un rfl rfl ?_)
           | (refine W_guard_yes rfl ?_
              refine W_move rfl rfl ?_
              refine W_guard_yes rfl ?_
              refine W_move rfl rfl ?_
              refine W_guard_yes rfl ?_
              refine W_sadd rfl rfl ?_ rfl ?_
              (focus (first | omega | (simp only [List.length_append, List.length_cons, List.length_nil, List.length_drop, List.length_take] at *; omega) | (simp; omega)))
              refine W_guard_yes rfl ?_
              refine W_pcall hp rfl ((safe_spec (a ++ b) (by omega)).eq (congrArg Value.bool ((safe_append a b).trans (by rw [hsa, hsb])))) rfl ?_
              clear hp; intro w hp
              refine W_guard_yes rfl ?_
              refine W_move rfl rfl ?_
              refine W_guard_yes rfl ?_
              refine W_pcall hp rfl ((safe_spec a (by omega)).eq (congrArg Value.bool hsa)) rfl ?_
              clear hp; intro w hp
              refine W_guard_yes rfl ?_
              refine W_move rfl rfl ?_)
         first
           | refine W_guard_lit_t rfl ?_
           | refine W_guard_lit_f rfl ?_
           | refine W_guard_lit_u rfl ?_
           | refine W_guard_split_d rfl rfl rfl (fun hg5 => ?_) (fun hg5 => ?_)
           | refine W_guard_split_n rfl rfl rfl (fun hg5 => ?_) (fun hg5 => ?_)
           | refine W_guard_split_nb rfl rfl rfl (fun hg5 => ?_) (fun hg5 => ?_)
           | refine W_guard_split rfl rfl rfl (fun hg5 => ?_) (fun hg5 => ?_)
         all_goals try (exfalso; first | omega | (simp only [Bool.false_eq_true, reduceCtorEq] at hg5; done) | (refine absurd hg5 ?_; with_reducible assumption) | (refine absurd ?_ hg5; with_reducible assumption))
         all_goals (
          first
            | (iterate 2 refine W_guard_no rfl rfl rfl ?_)
            | (iterate 2 refine W_guard_un rfl rfl ?_)
            | (refine W_guard_yes rfl ?_
               refine W_move rfl rfl ?_
               refine W_guard_yes rfl ?_
               refine W_pcall hp rfl ((safe_spec b (by omega)).eq (congrArg Value.bool hsb)) rfl ?_
               clear hp; intro w hp)
          first
            | (iterate 2 refine W_guard_no rfl rfl rfl ?_)
            | (iterate 2 refine W_guard_un rfl rfl ?_)
            | (refine W_guard_yes rfl ?_
               first
                 | (refine W_pick_t rfl rfl rfl ?_)
                 | (refine W_pick_f rfl rfl rfl ?_)
                 | (refine W_pick_b rfl rfl rfl rfl ?_)
               refine W_guard_yes rfl ?_
               first
                 | (refine W_bneq_f Try.underlying4 rfl rfl rfl rfl ?_)
                 | (refine W_bneq_t Try.underlying4 rfl rfl rfl rfl ?_)
                 | (refine W_bneq Try.underlying4 rfl rfl rfl ?_))
          first
            | (refine W_pick_t rfl rfl rfl ?_)
            | (refine W_pick_f rfl rfl rfl ?_)
            | (refine W_pick_b rfl rfl rfl rfl ?_)
          refine W_nil ?_
          refine N_then_k ?_
          first
            | refine K_cond_d rfl (fun hc6 => ?_) (fun hc6 => ?_)
            | refine K_cond_n rfl (fun hc6 => ?_) (fun hc6 => ?_)
            | refine K_cond_nb rfl (fun hc6 => ?_) (fun hc6 => ?_)
            | refine K_cond_t rfl (fun hc6 => ?_) (fun hc6 => ?_)
          · try (exfalso; first | omega | (simp only [Bool.false_eq_true, reduceCtorEq] at hc6; done) | (refine absurd hc6 ?_; with_reducible assumption) | (refine absurd ?_ hc6; with_reducible assumption))
            all_goals (
             refine K_seq ?_
             refine K_region ?_
             refine W_assign rfl rfl ?_
             refine W_nil ?_
             refine N_then_k ?_
             refine K_ret ?_
             refine N_then_ret ?_
             refine N_done1 (.inr rfl) rfl rfl ?_
             exact ⟨_, rfl, rfl, hp.nil⟩)
          · try (exfalso; first | omega | (simp only [Bool.false_eq_true, reduceCtorEq] at hc6; done) | (refine absurd hc6 ?_; with_reducible assumption) | (refine absurd ?_ hc6; with_reducible assumption))
            all_goals (
             refine K_skip ?_
             refine N_then_k ?_
             refine K_seq ?_
             refine K_region ?_
             rcases hfa : a.all fieldB <;> rcases hfb : b.all fieldB
             all_goals rw [hfa, hfb] at hall
             all_goals (
              refine W_move rfl rfl ?_
              first
                | (refine W_pcall hp rfl (quote_ok a (by omega) hfa) rfl ?_)
                | (refine W_pcall hp rfl (quote_no a (by omega) hfa) rfl ?_)
              clear hp; intro w hp
              refine W_move rfl rfl ?_
              refine W_extract rfl rfl rfl ?_
              refine W_extract rfl rfl rfl ?_
              refine W_assign rfl rfl ?_
              refine W_assign rfl rfl ?_
              refine W_nil ?_
              refine N_then_k ?_
              refine K_seq ?_
              refine K_region ?_
              refine W_move rfl rfl ?_
              first
                | (refine W_pcall hp rfl (quote_ok b (by omega) hfb) rfl ?_)
                | (refine W_pcall hp rfl (quote_no b (by omega) hfb) rfl ?_)
              clear hp; intro w hp
              refine W_move rfl rfl ?_
              refine W_extract rfl rfl rfl ?_
              refine W_extract rfl rfl rfl ?_
              refine W_assign rfl rfl ?_
              refine W_assign rfl rfl ?_
              refine W_nil ?_
              refine N_then_k ?_
              refine K_seq ?_
              refine K_region ?_
              refine W_move rfl rfl ?_
              refine W_move rfl rfl ?_
              refine W_sadd rfl rfl ?_ rfl ?_
              (focus (first | omega | (simp only [List.length_append, List.length_cons, List.length_nil, List.length_drop, List.length_take] at *; omega) | (simp; omega)))
              first
                | (refine W_pcall hp rfl (quote_ok (a ++ b) (by omega) hall) rfl ?_)
                | (refine W_pcall hp rfl (quote_no (a ++ b) (by omega) hall) rfl ?_)
              clear hp; intro w hp
              refine W_move rfl rfl ?_
              refine W_extract rfl rfl rfl ?_
              refine W_extract rfl rfl rfl ?_
              refine W_assign rfl rfl ?_
              refine W_assign rfl rfl ?_
              refine W_nil ?_
              refine N_then_k ?_
              refine K_seq ?_
              refine K_seq ?_
              refine K_region ?_
              refine W_move rfl rfl ?_
              refine W_move rfl rfl ?_
              refine W_move rfl rfl ?_
              first
                | refine W_guard_lit_t rfl ?_
                | refine W_guard_lit_f rfl ?_
                | refine W_guard_lit_u rfl ?_
                | refine W_guard_split_d rfl rfl rfl (fun hg7 => ?_) (fun hg7 => ?_)
                | refine W_guard_split_n rfl rfl rfl (fun hg7 => ?_) (fun hg7 => ?_)
                | refine W_guard_split_nb rfl rfl rfl (fun hg7 => ?_) (fun hg7 => ?_)
                | refine W_guard_split rfl rfl rfl (fun hg7 => ?_) (fun hg7 => ?_)
              all_goals try (exfalso; first | omega | (simp only [Bool.false_eq_true, reduceCtorEq] at hg7; done) | (refine absurd hg7 ?_; with_reducible assumption) | (refine absurd ?_ hg7; with_reducible assumption))
              all_goals (
               first
                 | (refine W_guard_no rfl rfl rfl ?_)
                 | (refine W_guard_un rfl rfl ?_)
                 | (refine W_guard_yes rfl ?_
                    refine W_move rfl rfl ?_)
               first
                 | (refine W_pick_t rfl rfl rfl ?_)
                 | (refine W_pick_f rfl rfl rfl ?_)
                 | (refine W_pick_b rfl rfl rfl rfl ?_)
               first
                 | (refine W_bneq_f Try.underlying4 rfl rfl rfl rfl ?_)
                 | (refine W_bneq_t Try.underlying4 rfl rfl rfl rfl ?_)
                 | (refine W_bneq Try.underlying4 rfl rfl rfl ?_)
               refine W_nil ?_
               refine N_then_k ?_
               first
                 | refine K_cond_d rfl (fun hc8 => ?_) (fun hc8 => ?_)
                 | refine K_cond_n rfl (fun hc8 => ?_) (fun hc8 => ?_)
                 | refine K_cond_nb rfl (fun hc8 => ?_) (fun hc8 => ?_)
                 | refine K_cond_t rfl (fun hc8 => ?_) (fun hc8 => ?_)
               · try (exfalso; first | omega | (simp only [Bool.false_eq_true, reduceCtorEq] at hc8; done) | (refine absurd hc8 ?_; with_reducible assumption) | (refine absurd ?_ hc8; with_reducible assumption))
                 all_goals (
                  refine K_seq ?_
                  refine K_region ?_
                  refine W_assign rfl rfl ?_
                  refine W_nil ?_
                  refine N_then_k ?_
                  refine K_ret ?_
                  refine N_then_ret ?_
                  refine N_done1 (.inr rfl) rfl rfl ?_
                  exact ⟨_, rfl, rfl, hp.nil⟩)
               · try (exfalso; first | omega | (simp only [Bool.false_eq_true, reduceCtorEq] at hc8; done) | (refine absurd hc8 ?_; with_reducible assumption) | (refine absurd ?_ hc8; with_reducible assumption))
                 all_goals (
                  refine K_skip ?_
                  refine N_then_k ?_
                  refine K_seq ?_
                  refine K_seq ?_
                  refine K_region ?_
                  refine W_move rfl rfl ?_
                  first
                    | (refine W_not_t rfl rfl ?_)
                    | (refine W_not_f rfl rfl ?_)
                    | (refine W_not rfl rfl ?_)
                  refine W_nil ?_
                  refine N_then_k ?_
                  first
                    | refine K_cond_d rfl (fun hc9 => ?_) (fun hc9 => ?_)
                    | refine K_cond_n rfl (fun hc9 => ?_) (fun hc9 => ?_)
                    | refine K_cond_nb rfl (fun hc9 => ?_) (fun hc9 => ?_)
                    | refine K_cond_t rfl (fun hc9 => ?_) (fun hc9 => ?_)
                  · try (exfalso; first | omega | (simp only [Bool.false_eq_true, reduceCtorEq] at hc9; done) | (refine absurd hc9 ?_; with_reducible assumption) | (refine absurd ?_ hc9; with_reducible assumption))
                    all_goals (
                     refine K_seq ?_
                     refine K_region ?_
                     refine W_move rfl rfl ?_
                     first
                       | (refine W_seql_t rfl rfl ?_ rfl ?_; (focus (first | rfl | assumption)))
                       | (refine W_seql_f rfl rfl ?_ rfl ?_; (focus (first | assumption | decide | exact List.cons_ne_nil _ _)))
                       | (refine W_seql rfl rfl rfl ?_)
                     refine W_assign rfl rfl ?_
                     refine W_nil ?_
                     refine N_then_k ?_
                     refine K_ret ?_
                     refine N_then_ret ?_
                     refine N_done1 (.inr rfl) rfl rfl ?_
                     exact ⟨_, rfl, rfl, hp.nil⟩)
                  · try (exfalso; first | omega | (simp only [Bool.false_eq_true, reduceCtorEq] at hc9; done) | (refine absurd hc9 ?_; with_reducible assumption) | (refine absurd ?_ hc9; with_reducible assumption))
                    all_goals (
                     refine K_skip ?_
                     refine N_then_k ?_
                     refine K_seq ?_
                     refine K_seq ?_
                     refine K_region ?_
                     refine W_move rfl rfl ?_
                     refine W_len_s Try.underlying9 rfl rfl ?_
                     first
                       | (refine W_lss_t rfl rfl ?_ rfl ?_; (focus (omega)))
                       | (refine W_lss_f rfl rfl ?_ rfl ?_; (focus (omega)))
                       | (refine W_lss rfl rfl rfl ?_)
                     refine W_move rfl rfl ?_
                     first
                       | refine W_guard_lit_t rfl ?_
                       | refine W_guard_lit_f rfl ?_
                       | refine W_guard_lit_u rfl ?_
                       | refine W_guard_split_d rfl rfl rfl (fun hg10 => ?_) (fun hg10 => ?_)
                       | refine W_guard_split_n rfl rfl rfl (fun hg10 => ?_) (fun hg10 => ?_)
                       | refine W_guard_split_nb rfl rfl rfl (fun hg10 => ?_) (fun hg10 => ?_)
                       | refine W_guard_split rfl rfl rfl (fun hg10 => ?_) (fun hg10 => ?_)
                     all_goals try (exfalso; first | omega | (simp only [Bool.false_eq_true, reduceCtorEq] at hg10; done) | (refine absurd hg10 ?_; with_reducible assumption) | (refine absurd ?_ hg10; with_reducible assumption))
                     all_goals (
                      first
                        | (iterate 3 refine W_guard_no rfl rfl rfl ?_)
                        | (iterate 3 refine W_guard_un rfl rfl ?_)
                        | (refine W_guard_yes rfl ?_
                           refine W_move rfl rfl ?_
                           refine W_guard_yes rfl ?_
                           refine W_len_s Try.underlying9 rfl rfl ?_
                           refine W_guard_yes rfl ?_
                           first
                             | (refine W_lss_t rfl rfl ?_ rfl ?_; (focus (omega)))
                             | (refine W_lss_f rfl rfl ?_ rfl ?_; (focus (omega)))
                             | (refine W_lss rfl rfl rfl ?_))
                      first
                        | (refine W_pick_t rfl rfl rfl ?_)
                        | (refine W_pick_f rfl rfl rfl ?_)
                        | (refine W_pick_b rfl rfl rfl rfl ?_)
                      refine W_nil ?_
                      refine N_then_k ?_
                      first
                        | refine K_cond_d rfl (fun hc11 => ?_) (fun hc11 => ?_)
                        | refine K_cond_n rfl (fun hc11 => ?_) (fun hc11 => ?_)
                        | refine K_cond_nb rfl (fun hc11 => ?_) (fun hc11 => ?_)
                        | refine K_cond_t rfl (fun hc11 => ?_) (fun hc11 => ?_)
                      · try (exfalso; first | omega | (simp only [Bool.false_eq_true, reduceCtorEq] at hc11; done) | (refine absurd hc11 ?_; with_reducible assumption) | (refine absurd ?_ hc11; with_reducible assumption))
                        all_goals (
                         refine K_seq ?_
                         refine K_region ?_
                         refine W_assign rfl rfl ?_
                         refine W_nil ?_
                         refine N_then_k ?_
                         refine K_ret ?_
                         refine N_then_ret ?_
                         refine N_done1 (.inr rfl) rfl rfl ?_
                         exact ⟨_, rfl, rfl, hp.nil⟩)
                      · try (exfalso; first | omega | (simp only [Bool.false_eq_true, reduceCtorEq] at hc11; done) | (refine absurd hc11 ?_; with_reducible assumption) | (refine absurd ?_ hc11; with_reducible assumption))
                        all_goals (
                         refine K_skip ?_
                         refine N_then_k ?_
                         refine K_seq ?_
                         refine K_quiet hm hp (by kernel_rfl) ?_
                         clear hp
                         refine Wq_val (fun w hp => R_move rfl) rfl ?_
                         refine Wq_val (fun w hp => R_move rfl) rfl ?_
                         refine Wq_val (fun w hp => R_move rfl) rfl ?_
                         refine Wq_val (fun w hp => R_len_s Try.underlying9 rfl) rfl ?_
                         first
                           | (refine Wq_val (fun w hp => R_sub rfl rfl (wr_i64 ?_)) rfl ?_; (focus (omega)))
                           | (refine Wq_val (fun w hp => R_sub rfl rfl rfl) rfl ?_)
                         refine Wq_val (fun w hp => R_slice_sh Try.underlying9 rfl rfl ?_ ?_) rfl ?_
                         (focus (first | omega | (simp; omega) | (simp only [List.length_drop, List.length_take, List.length_append]; omega)))
                         (focus (first | omega | (simp; omega) | (simp only [List.length_drop, List.length_take, List.length_append]; omega)))
                         refine Wq_val (fun w hp => R_move rfl) rfl ?_
                         refine Wq_val (fun w hp => R_slice_sl Try.underlying9 rfl rfl ?_ ?_) rfl ?_
                         (focus (first | omega | (simp; omega) | (simp only [List.length_drop, List.length_take, List.length_append]; omega)))
                         (focus (first | omega | (simp; omega) | (simp only [List.length_drop, List.length_take, List.length_append]; omega)))
                         refine Wq_val (fun w hp => R_sadd rfl rfl ?_) rfl ?_
                         (focus (first | omega | (simp only [List.length_append, List.length_cons, List.length_nil, List.length_drop, List.length_take] at *; omega) | (simp; omega)))
                         first
                           | (refine Wq_val (fun w hp => R_seql_t rfl rfl ?_) rfl ?_; (focus (first | rfl | assumption)))
                           | (refine Wq_val (fun w hp => R_seql_f rfl rfl ?_) rfl ?_; (focus (first | assumption | decide | exact List.cons_ne_nil _ _)))
                           | (refine Wq_val (fun w hp => R_seql rfl rfl) rfl ?_)
                         refine Wq_val (fun w hp => R_assign rfl) rfl ?_
                         refine Wq_end ?_
                         intro w hp
                         refine N_then_k ?_
                         refine K_ret ?_
                         refine N_done1 (.inr rfl) rfl rfl ?_
                         exact ⟨_, rfl, rfl, hp.nil⟩)))))))))))))

theorem CleanQuoted_walk (s : List UInt8) : PureF Try.prog 7 [.string ⟨s.toArray⟩] (.bool true) := by
  have hqc := quote_count s
  have h34 : (34 : UInt8).toNat = 34 := rfl
  have hq0 := quote_first s
  have hq1 := quote_last s
  refine PureF.intro go7 Try.func7 rfl rfl fun w0 hp => ?_
  refine K_seq ?_
  refine K_region ?_
  refine W_assign rfl rfl ?_
  refine W_nil ?_
  refine N_then_k ?_
  refine K_seq ?_
  refine K_seq ?_
  refine K_region ?_
  rcases Bool.eq_false_or_eq_true (s.all fieldB) with hf | hf
  all_goals (
   refine W_pcall hp rfl (awake_spec) rfl ?_
   clear hp; intro w hp
   first
     | (refine W_not_t rfl rfl ?_)
     | (refine W_not_f rfl rfl ?_)
     | (refine W_not rfl rfl ?_)
   refine W_move rfl rfl ?_
   first
     | refine W_guard_lit_t rfl ?_
     | refine W_guard_lit_f rfl ?_
     | refine W_guard_lit_u rfl ?_
     | refine W_guard_split_d rfl rfl rfl (fun hg1 => ?_) (fun hg1 => ?_)
     | refine W_guard_split_n rfl rfl rfl (fun hg1 => ?_) (fun hg1 => ?_)
     | refine W_guard_split_nb rfl rfl rfl (fun hg1 => ?_) (fun hg1 => ?_)
     | refine W_guard_split rfl rfl rfl (fun hg1 => ?_) (fun hg1 => ?_)
   all_goals try (exfalso; first | omega | (simp only [Bool.false_eq_true, reduceCtorEq] at hg1; done) | (refine absurd hg1 ?_; with_reducible assumption) | (refine absurd ?_ hg1; with_reducible assumption))
   all_goals (
    first
      | (iterate 3 refine W_guard_no rfl rfl rfl ?_)
      | (iterate 3 refine W_guard_un rfl rfl ?_)
      | (refine W_guard_yes rfl ?_
         refine W_move rfl rfl ?_
         refine W_guard_yes rfl ?_
         refine W_len_s Try.underlying9 rfl rfl ?_
         refine W_guard_yes rfl ?_
         first
           | (refine W_gtr_t rfl rfl ?_ rfl ?_; (focus (omega)))
           | (refine W_gtr_f rfl rfl ?_ rfl ?_; (focus (omega)))
           | (refine W_gtr rfl rfl rfl ?_))
    first
      | (refine W_pick_t rfl rfl rfl ?_)
      | (refine W_pick_f rfl rfl rfl ?_)
      | (refine W_pick_b rfl rfl rfl rfl ?_)
    refine W_move rfl rfl ?_
    first
      | refine W_guard_lit_t rfl ?_
      | refine W_guard_lit_f rfl ?_
      | refine W_guard_lit_u rfl ?_
      | refine W_guard_split_d rfl rfl rfl (fun hg2 => ?_) (fun hg2 => ?_)
      | refine W_guard_split_n rfl rfl rfl (fun hg2 => ?_) (fun hg2 => ?_)
      | refine W_guard_split_nb rfl rfl rfl (fun hg2 => ?_) (fun hg2 => ?_)
      | refine W_guard_split rfl rfl rfl (fun hg2 => ?_) (fun hg2 => ?_)
    all_goals try (exfalso; first | omega | (simp only [Bool.false_eq_true, reduceCtorEq] at hg2; done) | (refine absurd hg2 ?_; with_reducible assumption) | (refine absurd ?_ hg2; with_reducible assumption))
    all_goals (
     first
       | (iterate 3 refine W_guard_no rfl rfl rfl ?_)
       | (iterate 3 refine W_guard_un rfl rfl ?_)
       | (refine W_guard_yes rfl ?_
          refine W_move rfl rfl ?_
          refine W_guard_yes rfl ?_
          refine W_pcall hp rfl ((rall5_spec s (by omega)).eq (congrArg Value.bool hf)) rfl ?_
          clear hp; intro w hp
          refine W_guard_yes rfl ?_
          first
            | (refine W_not_t rfl rfl ?_)
            | (refine W_not_f rfl rfl ?_)
            | (refine W_not rfl rfl ?_))
     first
       | (refine W_pick_t rfl rfl rfl ?_)
       | (refine W_pick_f rfl rfl rfl ?_)
       | (refine W_pick_b rfl rfl rfl rfl ?_)
     refine W_nil ?_
     refine N_then_k ?_
     first
       | refine K_cond_d rfl (fun hc3 => ?_) (fun hc3 => ?_)
       | refine K_cond_n rfl (fun hc3 => ?_) (fun hc3 => ?_)
       | refine K_cond_nb rfl (fun hc3 => ?_) (fun hc3 => ?_)
       | refine K_cond_t rfl (fun hc3 => ?_) (fun hc3 => ?_)
     · try (exfalso; first | omega | (simp only [Bool.false_eq_true, reduceCtorEq] at hc3; done) | (refine absurd hc3 ?_; with_reducible assumption) | (refine absurd ?_ hc3; with_reducible assumption))
       all_goals (
        refine K_seq ?_
        refine K_region ?_
        refine W_pcall hp rfl (awake_spec) rfl ?_
        clear hp; intro w hp
        refine W_assign rfl rfl ?_
        refine W_nil ?_
        refine N_then_k ?_
        refine K_ret ?_
        refine N_then_ret ?_
        refine N_done1 (.inr rfl) rfl rfl ?_
        exact ⟨_, rfl, rfl, hp.nil⟩)
     · try (exfalso; first | omega | (simp only [Bool.false_eq_true, reduceCtorEq] at hc3; done) | (refine absurd hc3 ?_; with_reducible assumption) | (refine absurd ?_ hc3; with_reducible assumption))
       all_goals (
        refine K_skip ?_
        refine N_then_k ?_
        refine K_seq ?_
        refine K_region ?_
        refine W_move rfl rfl ?_
        refine W_pcall hp rfl (quote_ok s (by omega) hf) rfl ?_
        clear hp; intro w hp
        refine W_move rfl rfl ?_
        refine W_extract rfl rfl rfl ?_
        refine W_extract rfl rfl rfl ?_
        refine W_assign rfl rfl ?_
        refine W_assign rfl rfl ?_
        refine W_nil ?_
        refine N_then_k ?_
        refine K_seq ?_
        refine K_region ?_
        refine W_assign rfl rfl ?_
        refine W_nil ?_
        refine N_then_k ?_
        refine K_seq ?_
        refine K_seq ?_
        refine K_region ?_
        refine W_assign rfl rfl ?_
        refine W_nil ?_
        refine N_then_k ?_
        refine K_block ?_
        refine K_loop (σ := Nat) [5, 6, 25, 26, 27, 28, 29, 30, 31, 32, 33, 34, 35, 36, 37, 38, 39, 40, 41, 42]
            (fun k => [(6, .int .i64 k), (5, .int .i64 (2 + (specialN (s.take k) : Int)))])
            (fun k w => Hp w0 [] [] w ∧ k ≤ s.length)
            (fun k => s.length - k) (0) ?_ ?_ ?_
        · repeat' (first | exact sub_lst_nil (sub_nil _) | refine sub_lst rfl ?_ | (refine sub_lst_eq rfl ?_ ?_; · first | rfl | (simp; done) | (congr 1; omega)))
        · exact ⟨hp, Nat.zero_le _⟩
        · intro k w hJ
          clear hp
          obtain ⟨hp, hle⟩ := hJ
          rcases Nat.lt_or_ge k (s.length) with hlt | hge
          all_goals (
           refine K_seq ?_
           refine K_seq ?_
           refine K_region ?_
           refine W_move rfl rfl ?_
           refine W_move rfl rfl ?_
           refine W_len_s Try.underlying9 rfl rfl ?_
           first
             | (refine W_lss_t rfl rfl ?_ rfl ?_; (focus (omega)))
             | (refine W_lss_f rfl rfl ?_ rfl ?_; (focus (omega)))
             | (refine W_lss rfl rfl rfl ?_)
           refine W_nil ?_
           refine N_then_k ?_
           first
             | refine K_cond_d rfl (fun hc4 => ?_) (fun hc4 => ?_)
             | refine K_cond_n rfl (fun hc4 => ?_) (fun hc4 => ?_)
             | refine K_cond_nb rfl (fun hc4 => ?_) (fun hc4 => ?_)
             | refine K_cond_t rfl (fun hc4 => ?_) (fun hc4 => ?_)
           · try (exfalso; first | omega | (simp only [Bool.false_eq_true, reduceCtorEq] at hc4; done) | (refine absurd hc4 ?_; with_reducible assumption) | (refine absurd ?_ hc4; with_reducible assumption))
             all_goals (
              refine K_skip ?_
              refine N_then_k ?_
              obtain ⟨c, hc⟩ : ∃ c, s[k]? = some c := ⟨_, List.getElem?_eq_getElem hlt⟩
              have hu := c.toNat_lt
              have hst := specialN_take hc
              have hbound : specialN (s.take k) ≤ s.length := Nat.le_trans (List.length_filter_le ..) (by simp; omega)
              refine K_mid (σ := Unit) [5, 31, 32, 33, 34, 35, 36, 37, 38, 39, 40, 41, 42]
                  (fun _ => [(5, .int .i64 (2 + (specialN (s.take (k + 1)) : Int)))])
                  (fun _ w => Hp w0 [] [] w) ?_ ?_
              · refine K_block ?_
                refine K_seq ?_
                refine K_region ?_
                obtain ⟨c, hc⟩ : ∃ c, s[k]? = some c := ⟨_, List.getElem?_eq_getElem hlt⟩
                have hu := c.toNat_lt
                have hst := specialN_take hc
                refine W_move rfl rfl ?_
                refine W_move rfl rfl ?_
                refine W_index_s Try.underlying9 rfl rfl ?_ (by first | with_reducible assumption | assumption | exact rfl | exact idx_getD (by first | omega | (simp; omega))) rfl ?_
                (focus (omega))
                first
                  | (refine W_eql_t rfl rfl ?_ rfl ?_; (focus (omega)))
                  | (refine W_eql_f rfl rfl ?_ rfl ?_; (focus (omega)))
                  | (refine W_eql rfl rfl rfl ?_)
                refine W_move rfl rfl ?_
                first
                  | refine W_guard_lit_t rfl ?_
                  | refine W_guard_lit_f rfl ?_
                  | refine W_guard_lit_u rfl ?_
                  | refine W_guard_split_d rfl rfl rfl (fun hg5 => ?_) (fun hg5 => ?_)
                  | refine W_guard_split_n rfl rfl rfl (fun hg5 => ?_) (fun hg5 => ?_)
                  | refine W_guard_split_nb rfl rfl rfl (fun hg5 => ?_) (fun hg5 => ?_)
                  | refine W_guard_split rfl rfl rfl (fun hg5 => ?_) (fun hg5 => ?_)
                all_goals try (exfalso; first | omega | (simp only [Bool.false_eq_true, reduceCtorEq] at hg5; done) | (refine absurd hg5 ?_; with_reducible assumption) | (refine absurd ?_ hg5; with_reducible assumption))
                all_goals (
                 first
                   | (iterate 4 refine W_guard_no rfl rfl rfl ?_)
                   | (iterate 4 refine W_guard_un rfl rfl ?_)
                   | (refine W_guard_yes rfl ?_
                      refine W_move rfl rfl ?_
                      refine W_guard_yes rfl ?_
                      refine W_move rfl rfl ?_
                      refine W_guard_yes rfl ?_
                      refine W_index_s Try.underlying9 rfl rfl ?_ (by first | with_reducible assumption | assumption | exact rfl | exact idx_getD (by first | omega | (simp; omega))) rfl ?_
                      (focus (omega))
                      refine W_guard_yes rfl ?_
                      first
                        | (refine W_eql_t rfl rfl ?_ rfl ?_; (focus (omega)))
                        | (refine W_eql_f rfl rfl ?_ rfl ?_; (focus (omega)))
                        | (refine W_eql rfl rfl rfl ?_))
                 first
                   | (refine W_pick_t rfl rfl rfl ?_)
                   | (refine W_pick_f rfl rfl rfl ?_)
                   | (refine W_pick_b rfl rfl rfl rfl ?_)
                 refine W_nil ?_
                 refine N_then_k ?_
                 first
                   | refine K_cond_d rfl (fun hc6 => ?_) (fun hc6 => ?_)
                   | refine K_cond_n rfl (fun hc6 => ?_) (fun hc6 => ?_)
                   | refine K_cond_nb rfl (fun hc6 => ?_) (fun hc6 => ?_)
                   | refine K_cond_t rfl (fun hc6 => ?_) (fun hc6 => ?_)
                 · try (exfalso; first | omega | (simp only [Bool.false_eq_true, reduceCtorEq] at hc6; done) | (refine absurd hc6 ?_; with_reducible assumption) | (refine absurd ?_ hc6; with_reducible assumption))
                   all_goals (
                    refine K_region ?_
                    refine W_move rfl rfl ?_
                    first
                      | (refine W_add rfl rfl (wr_i64 ?_) rfl ?_; (focus (omega)))
                      | (refine W_add rfl rfl rfl rfl ?_)
                    refine W_assign rfl rfl ?_
                    refine W_nil ?_
                    refine N_block_normal ?_
                    refine N_mid (()) (sub_end ?_ ?_) ?_
                    · repeat' (first | exact sub_lst_nil (sub_nil _) | refine sub_lst rfl ?_ | (refine sub_lst_eq rfl ?_ ?_; · first | rfl | (rw [hst]; congr 1; first | (rw [if_pos (show SpecialP c.toNat by unfold SpecialP; omega)]; omega) | (rw [if_neg (show ¬ SpecialP c.toNat by unfold SpecialP; omega)]; omega)) | (simp; done) | (congr 1; omega)))
                    · repeat' (first | exact sub_refl _ | exact sub_strip _ _ | refine sub_s_cons rfl ?_ | refine sub_s_lst rfl ?_ | refine sub_s_strip rfl ?_)
                    · exact hp)
                 · try (exfalso; first | omega | (simp only [Bool.false_eq_true, reduceCtorEq] at hc6; done) | (refine absurd hc6 ?_; with_reducible assumption) | (refine absurd ?_ hc6; with_reducible assumption))
                   all_goals (
                    refine K_skip ?_
                    refine N_block_normal ?_
                    refine N_mid (()) (sub_end ?_ ?_) ?_
                    · repeat' (first | exact sub_lst_nil (sub_nil _) | refine sub_lst rfl ?_ | (refine sub_lst_eq rfl ?_ ?_; · first | rfl | (rw [hst]; congr 1; first | (rw [if_pos (show SpecialP c.toNat by unfold SpecialP; omega)]; omega) | (rw [if_neg (show ¬ SpecialP c.toNat by unfold SpecialP; omega)]; omega)) | (simp; done) | (congr 1; omega)))
                    · repeat' (first | exact sub_refl _ | exact sub_strip _ _ | refine sub_s_cons rfl ?_ | refine sub_s_lst rfl ?_ | refine sub_s_strip rfl ?_)
                    · exact hp))
              · intro _ w hJ
                have hp := hJ
                refine K_region ?_
                refine W_move rfl rfl ?_
                first
                  | (refine W_add rfl rfl (wr_i64 ?_) rfl ?_; (focus (omega)))
                  | (refine W_add rfl rfl rfl rfl ?_)
                refine W_assign rfl rfl ?_
                refine W_nil ?_
                refine N_again (k + 1) (sub_end ?_ ?_) ?_ ?_
                · repeat' (first | exact sub_lst_nil (sub_nil _) | refine sub_lst rfl ?_ | (refine sub_lst_eq rfl ?_ ?_; · first | rfl | (rw [hst]; congr 1; first | (rw [if_pos (show SpecialP c.toNat by unfold SpecialP; omega)]; omega) | (rw [if_neg (show ¬ SpecialP c.toNat by unfold SpecialP; omega)]; omega)) | (simp; done) | (congr 1; omega)))
                · repeat' (first | exact sub_refl _ | exact sub_strip _ _ | refine sub_s_cons rfl ?_ | refine sub_s_lst rfl ?_ | refine sub_s_strip rfl ?_)
                · refine ⟨hp, hlt⟩
                · omega)
           · try (exfalso; first | omega | (simp only [Bool.false_eq_true, reduceCtorEq] at hc4; done) | (refine absurd hc4 ?_; with_reducible assumption) | (refine absurd ?_ hc4; with_reducible assumption))
             all_goals (
              refine K_exit ?_
              refine N_then_exit ?_
              refine N_then_exit ?_
              refine N_block_exit ?_
              refine N_then_k ?_
              refine K_seq ?_
              refine K_region ?_
              obtain rfl : k = s.length := by omega
              have htk : specialN (s.take s.length) = specialN s := by rw [List.take_length]
              have hbound : specialN s ≤ s.length := List.length_filter_le ..
              refine W_move rfl rfl ?_
              refine W_move rfl rfl ?_
              first
                | refine W_guard_lit_t rfl ?_
                | refine W_guard_lit_f rfl ?_
                | refine W_guard_lit_u rfl ?_
                | refine W_guard_split_d rfl rfl rfl (fun hg7 => ?_) (fun hg7 => ?_)
                | refine W_guard_split_n rfl rfl rfl (fun hg7 => ?_) (fun hg7 => ?_)
                | refine W_guard_split_nb rfl rfl rfl (fun hg7 => ?_) (fun hg7 => ?_)
                | refine W_guard_split rfl rfl rfl (fun hg7 => ?_) (fun hg7 => ?_)
              all_goals try (exfalso; first | omega | (simp only [Bool.false_eq_true, reduceCtorEq] at hg7; done) | (refine absurd hg7 ?_; with_reducible assumption) | (refine absurd ?_ hg7; with_reducible assumption))
              all_goals (
               first
                 | (iterate 7 refine W_guard_no rfl rfl rfl ?_)
                 | (iterate 7 refine W_guard_un rfl rfl ?_)
                 | (refine W_guard_yes rfl ?_
                    refine W_move rfl rfl ?_
                    refine W_guard_yes rfl ?_
                    refine W_len_s Try.underlying9 rfl rfl ?_
                    refine W_guard_yes rfl ?_
                    refine W_move rfl rfl ?_
                    refine W_guard_yes rfl ?_
                    refine W_len_s Try.underlying9 rfl rfl ?_
                    refine W_guard_yes rfl ?_
                    refine W_move rfl rfl ?_
                    refine W_guard_yes rfl ?_
                    first
                      | (refine W_add rfl rfl (wr_i64 ?_) rfl ?_; (focus (omega)))
                      | (refine W_add rfl rfl rfl rfl ?_)
                    refine W_guard_yes rfl ?_
                    first
                      | (refine W_eql_t rfl rfl ?_ rfl ?_; (focus (omega)))
                      | (refine W_eql_f rfl rfl ?_ rfl ?_; (focus (omega)))
                      | (refine W_eql rfl rfl rfl ?_))
               first
                 | (refine W_pick_t rfl rfl rfl ?_)
                 | (refine W_pick_f rfl rfl rfl ?_)
                 | (refine W_pick_b rfl rfl rfl rfl ?_)
               refine W_move rfl rfl ?_
               first
                 | refine W_guard_lit_t rfl ?_
                 | refine W_guard_lit_f rfl ?_
                 | refine W_guard_lit_u rfl ?_
                 | refine W_guard_split_d rfl rfl rfl (fun hg8 => ?_) (fun hg8 => ?_)
                 | refine W_guard_split_n rfl rfl rfl (fun hg8 => ?_) (fun hg8 => ?_)
                 | refine W_guard_split_nb rfl rfl rfl (fun hg8 => ?_) (fun hg8 => ?_)
                 | refine W_guard_split rfl rfl rfl (fun hg8 => ?_) (fun hg8 => ?_)
               all_goals try (exfalso; first | omega | (simp only [Bool.false_eq_true, reduceCtorEq] at hg8; done) | (refine absurd hg8 ?_; with_reducible assumption) | (refine absurd ?_ hg8; with_reducible assumption))
               all_goals (
                first
                  | (iterate 3 refine W_guard_no rfl rfl rfl ?_)
                  | (iterate 3 refine W_guard_un rfl rfl ?_)
                  | (refine W_guard_yes rfl ?_
                     refine W_move rfl rfl ?_
                     refine W_guard_yes rfl ?_
                     refine W_index_s Try.underlying9 rfl rfl ?_ (by first | with_reducible assumption | assumption | exact rfl | exact idx_getD (by first | omega | (simp; omega))) rfl ?_
                     (focus (omega))
                     refine W_guard_yes rfl ?_
                     first
                       | (refine W_eql_t rfl rfl ?_ rfl ?_; (focus (omega)))
                       | (refine W_eql_f rfl rfl ?_ rfl ?_; (focus (omega)))
                       | (refine W_eql rfl rfl rfl ?_))
                first
                  | (refine W_pick_t rfl rfl rfl ?_)
                  | (refine W_pick_f rfl rfl rfl ?_)
                  | (refine W_pick_b rfl rfl rfl rfl ?_)
                refine W_move rfl rfl ?_
                first
                  | refine W_guard_lit_t rfl ?_
                  | refine W_guard_lit_f rfl ?_
                  | refine W_guard_lit_u rfl ?_
                  | refine W_guard_split_d rfl rfl rfl (fun hg9 => ?_) (fun hg9 => ?_)
                  | refine W_guard_split_n rfl rfl rfl (fun hg9 => ?_) (fun hg9 => ?_)
                  | refine W_guard_split_nb rfl rfl rfl (fun hg9 => ?_) (fun hg9 => ?_)
                  | refine W_guard_split rfl rfl rfl (fun hg9 => ?_) (fun hg9 => ?_)
                all_goals try (exfalso; first | omega | (simp only [Bool.false_eq_true, reduceCtorEq] at hg9; done) | (refine absurd hg9 ?_; with_reducible assumption) | (refine absurd ?_ hg9; with_reducible assumption))
                all_goals (
                 first
                   | (iterate 6 refine W_guard_no rfl rfl rfl ?_)
                   | (iterate 6 refine W_guard_un rfl rfl ?_)
                   | (refine W_guard_yes rfl ?_
                      refine W_move rfl rfl ?_
                      refine W_guard_yes rfl ?_
                      refine W_move rfl rfl ?_
                      refine W_guard_yes rfl ?_
                      refine W_len_s Try.underlying9 rfl rfl ?_
                      refine W_guard_yes rfl ?_
                      first
                        | (refine W_sub rfl rfl (wr_i64 ?_) rfl ?_; (focus (omega)))
                        | (refine W_sub rfl rfl rfl rfl ?_)
                      refine W_guard_yes rfl ?_
                      refine W_index_s Try.underlying9 rfl rfl ?_ (by first | with_reducible assumption | assumption | exact rfl | exact idx_getD (by first | omega | (simp; omega))) rfl ?_
                      (focus (omega))
                      refine W_guard_yes rfl ?_
                      first
                        | (refine W_eql_t rfl rfl ?_ rfl ?_; (focus (omega)))
                        | (refine W_eql_f rfl rfl ?_ rfl ?_; (focus (omega)))
                        | (refine W_eql rfl rfl rfl ?_))
                 first
                   | (refine W_pick_t rfl rfl rfl ?_)
                   | (refine W_pick_f rfl rfl rfl ?_)
                   | (refine W_pick_b rfl rfl rfl rfl ?_)
                 refine W_assign rfl rfl ?_
                 refine W_nil ?_
                 refine N_then_k ?_
                 refine K_ret ?_
                 refine N_done1 (.inr rfl) rfl rfl ?_
                 exact ⟨_, rfl, rfl, hp.nil⟩)))))))))

end Go.Proofs.Ytaeelnggnpeihaa
