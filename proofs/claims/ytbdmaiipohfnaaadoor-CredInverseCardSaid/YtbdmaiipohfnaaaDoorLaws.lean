/-
  Two laws of package cred, walked.
-/
import Derived.Test.YtbdmaiipohfnaaaDoorAwk
namespace Go.Proofs.YtbdmaiipohfnaaaDoor
open Go.Sx Go.RowKit
set_option linter.unusedVariables false
set_option linter.unusedSimpArgs false
set_option maxRecDepth 100000

theorem dg_nb (n : Nat) : dg n ≠ 32 := by
  rcases Nat.lt_or_ge n 64 with h | h
  · have : ∀ k : Fin 64, dg k.val ≠ 32 := by decide +kernel
    exact this ⟨n, h⟩
  · unfold dg; rw [List.getD_eq_getElem?_getD, List.getElem?_eq_none (by exact h)]; decide
theorem enc_ne {b : List UInt8} {c : UInt8} (h : c ∈ enc64 b) : c ≠ 32 := by
  unfold enc64 at h
  rcases List.mem_append.1 h with h | h
  · obtain ⟨n, _, rfl⟩ := List.mem_map.1 h; exact dg_nb n
  · rw [(List.mem_replicate.1 h).2]; decide
theorem dropW_rep (k : Nat) (s : List UInt8) : (List.replicate k (32 : UInt8) ++ s).dropWhile (· == 32) = s.dropWhile (· == 32) := by
  induction k with
  | zero => rfl
  | succ k ih => rw [List.replicate_succ, List.cons_append, dropW_cons rfl, ih]
theorem dropW_enc (b : List UInt8) : (enc64 b).dropWhile (· == 32) = enc64 b := by
  cases h : enc64 b with
  | nil => rfl
  | cons x r => exact dropW_no (enc_ne (by rw [h]; exact List.mem_cons_self))
theorem cred_back {a b : List UInt8} (hno : 58 ∉ a) (k : Nat) : credF ([98, 65, 83, 73, 67] ++ List.replicate (k + 1) 32 ++ (ctextF a b).drop 6) = (a, b, true) := by
  have hv : [98, 65, 83, 73, 67] ++ List.replicate (k + 1) (32 : UInt8) ++ (ctextF a b).drop 6 = [98, 65, 83, 73, 67, 32] ++ (List.replicate k 32 ++ enc64 (a ++ [58] ++ b)) := by
    rw [List.replicate_succ]; rfl
  rw [hv]
  have hb : lower (([98, 65, 83, 73, 67, 32] ++ (List.replicate k 32 ++ enc64 (a ++ [58] ++ b))).take 5) = [98, 97, 115, 105, 99] := by rfl
  have hD : dec64 ((([98, 65, 83, 73, 67, 32] ++ (List.replicate k 32 ++ enc64 (a ++ [58] ++ b))).drop (5 + 1)).dropWhile (· == 32)) = (a ++ [58] ++ b, -1) := by
    show dec64 ((List.replicate k 32 ++ enc64 (a ++ [58] ++ b)).dropWhile (· == 32)) = _
    rw [dropW_rep, dropW_enc, dec64_enc]
  have hj : Lib.indexByte (a ++ [58] ++ b) 58 = (a.length : Nat) := by
    refine idx_at (by simp) fun x hx e => ?_
    rw [List.append_assoc, List.take_left] at hx
    subst e; exact hno hx
  rw [credF5 (basic_ref hb rfl) hb hD hj]
  have e1 : (a ++ [58] ++ b).take a.length = a := by rw [List.append_assoc, List.take_left]
  have e2 : (a ++ [58] ++ b).drop (a.length + 1) = b := by
    rw [show a.length + 1 = (a ++ [58]).length by simp, List.drop_left]
  rw [e1, e2]

theorem CredParses_walk (w0 : World) (hK : Roots w0) (s : List UInt8) : PureAt Tryd.prog 3 [.string ⟨s.toArray⟩] (.bool true) w0 := by
  refine PureAt.intro go3 Tryd.func3 rfl rfl fun hp => ?_
  refine (fun (hk : ∀ w, Hp w0 [] [] w → K _ _ _ _ _ w) => hk w0 hp) fun w hp => ?_
  refine K_seq ?_
  refine K_region ?_
  refine W_assign rfl rfl ?_
  refine W_nil ?_
  refine N_then_k ?_
  refine K_seq ?_
  refine K_seq ?_
  refine K_region ?_
  refine W_acall hp rfl ((awake_spec w (hK.keep hp))) rfl ?_
  clear hp; intro w hp
  first
    | (refine W_not_t rfl rfl ?_)
    | (refine W_not_f rfl rfl ?_)
    | (refine W_not rfl rfl ?_)
  refine W_move rfl rfl ?_
  first
    | refine W_guard_lit_t rfl ?_
    | refine W_guard_lit_f rfl ?_
    | refine W_guard_lit_u rfl ?_
    | refine W_guard_split_d rfl rfl rfl (fun hg1 => ?_) (fun hg1 => ?_)
    | refine W_guard_split_n rfl rfl rfl (fun hg1 => ?_) (fun hg1 => ?_)
    | refine W_guard_split_nb rfl rfl rfl (fun hg1 => ?_) (fun hg1 => ?_)
    | refine W_guard_split rfl rfl rfl (fun hg1 => ?_) (fun hg1 => ?_)
  all_goals try (exfalso; first | omega | (simp only [Bool.false_eq_true, reduceCtorEq] at hg1; done) | (refine absurd hg1 ?_; with_reducible assumption) | (refine absurd ?_ hg1; with_reducible assumption))
  all_goals (
   first
     | (iterate 3 refine W_guard_no rfl rfl rfl ?_)
     | (iterate 3 refine W_guard_un rfl rfl ?_)
     | (refine W_guard_yes rfl ?_
        refine W_move rfl rfl ?_
        refine W_guard_yes rfl ?_
        refine W_len_s Tryd.underlying9 rfl rfl ?_
        refine W_guard_yes rfl ?_
        first
          | (refine W_gtr_t rfl rfl ?_ rfl ?_; (focus (omega)))
          | (refine W_gtr_f rfl rfl ?_ rfl ?_; (focus (omega)))
          | (refine W_gtr rfl rfl rfl ?_))
   first
     | (refine W_pick_t rfl rfl rfl ?_)
     | (refine W_pick_f rfl rfl rfl ?_)
     | (refine W_pick_b rfl rfl rfl rfl ?_)
   refine W_nil ?_
   refine N_then_k ?_
   first
     | refine K_cond_d rfl (fun hc2 => ?_) (fun hc2 => ?_)
     | refine K_cond_n rfl (fun hc2 => ?_) (fun hc2 => ?_)
     | refine K_cond_nb rfl (fun hc2 => ?_) (fun hc2 => ?_)
     | refine K_cond_t rfl (fun hc2 => ?_) (fun hc2 => ?_)
   · try (exfalso; first | omega | (simp only [Bool.false_eq_true, reduceCtorEq] at hc2; done) | (refine absurd hc2 ?_; with_reducible assumption) | (refine absurd ?_ hc2; with_reducible assumption))
     all_goals (
      refine K_seq ?_
      refine K_region ?_
      refine W_acall hp rfl ((awake_spec w (hK.keep hp))) rfl ?_
      clear hp; intro w hp
      refine W_assign rfl rfl ?_
      refine W_nil ?_
      refine N_then_k ?_
      refine K_ret ?_
      refine N_then_ret ?_
      refine N_done1 (.inr rfl) rfl rfl ?_
      exact ⟨_, rfl, rfl, hp.nil⟩)
   · try (exfalso; first | omega | (simp only [Bool.false_eq_true, reduceCtorEq] at hc2; done) | (refine absurd hc2 ?_; with_reducible assumption) | (refine absurd ?_ hc2; with_reducible assumption))
     all_goals (
      refine K_skip ?_
      refine N_then_k ?_
      refine K_seq ?_
      refine K_region ?_
      refine W_move rfl rfl ?_
      refine W_acall hp rfl ((cparse_spec w s (by omega))) rfl ?_
      clear hp; intro w hp
      refine W_move rfl rfl ?_
      refine W_extract rfl rfl rfl ?_
      refine W_extract rfl rfl rfl ?_
      refine W_extract rfl rfl rfl ?_
      refine W_assign rfl rfl ?_
      refine W_assign rfl rfl ?_
      refine W_assign rfl rfl ?_
      refine W_nil ?_
      refine N_then_k ?_
      refine K_seq ?_
      refine K_region ?_
      refine W_move rfl rfl ?_
      refine W_acall hp rfl ((rcparse_spec w s (by omega))) rfl ?_
      clear hp; intro w hp
      refine W_move rfl rfl ?_
      refine W_extract rfl rfl rfl ?_
      refine W_extract rfl rfl rfl ?_
      refine W_extract rfl rfl rfl ?_
      refine W_assign rfl rfl ?_
      refine W_assign rfl rfl ?_
      refine W_assign rfl rfl ?_
      refine W_nil ?_
      refine N_then_k ?_
      refine K_seq ?_
      refine K_region ?_
      refine W_move rfl rfl ?_
      refine W_move rfl rfl ?_
      first
        | (refine W_seql_t rfl rfl ?_ rfl ?_; (focus (first | rfl | assumption)))
        | (refine W_seql_f rfl rfl ?_ rfl ?_; (focus (first | assumption | decide | exact List.cons_ne_nil _ _)))
        | (refine W_seql rfl rfl rfl ?_)
      refine W_move rfl rfl ?_
      first
        | refine W_guard_lit_t rfl ?_
        | refine W_guard_lit_f rfl ?_
        | refine W_guard_lit_u rfl ?_
        | refine W_guard_split_d rfl rfl rfl (fun hg3 => ?_) (fun hg3 => ?_)
        | refine W_guard_split_n rfl rfl rfl (fun hg3 => ?_) (fun hg3 => ?_)
        | refine W_guard_split_nb rfl rfl rfl (fun hg3 => ?_) (fun hg3 => ?_)
        | refine W_guard_split rfl rfl rfl (fun hg3 => ?_) (fun hg3 => ?_)
      all_goals try (exfalso; first | omega | (simp only [Bool.false_eq_true, reduceCtorEq] at hg3; done) | (refine absurd hg3 ?_; with_reducible assumption) | (refine absurd ?_ hg3; with_reducible assumption))
      all_goals (
       first
         | (iterate 3 refine W_guard_no rfl rfl rfl ?_)
         | (iterate 3 refine W_guard_un rfl rfl ?_)
         | (refine W_guard_yes rfl ?_
            refine W_move rfl rfl ?_
            refine W_guard_yes rfl ?_
            refine W_move rfl rfl ?_
            refine W_guard_yes rfl ?_
            first
              | (refine W_seql_t rfl rfl ?_ rfl ?_; (focus (first | rfl | assumption)))
              | (refine W_seql_f rfl rfl ?_ rfl ?_; (focus (first | assumption | decide | exact List.cons_ne_nil _ _)))
              | (refine W_seql rfl rfl rfl ?_))
       first
         | (refine W_pick_t rfl rfl rfl ?_)
         | (refine W_pick_f rfl rfl rfl ?_)
         | (refine W_pick_b rfl rfl rfl rfl ?_)
       refine W_move rfl rfl ?_
       first
         | refine W_guard_lit_t rfl ?_
         | refine W_guard_lit_f rfl ?_
         | refine W_guard_lit_u rfl ?_
         | refine W_guard_split_d rfl rfl rfl (fun hg4 => ?_) (fun hg4 => ?_)
         | refine W_guard_split_n rfl rfl rfl (fun hg4 => ?_) (fun hg4 => ?_)
         | refine W_guard_split_nb rfl rfl rfl (fun hg4 => ?_) (fun hg4 => ?_)
         | refine W_guard_split rfl rfl rfl (fun hg4 => ?_) (fun hg4 => ?_)
       all_goals try (exfalso; first | omega | (simp only [Bool.false_eq_true, reduceCtorEq] at hg4; done) | (refine absurd hg4 ?_; with_reducible assumption) | (refine absurd ?_ hg4; with_reducible assumption))
       all_goals (
        first
          | (iterate 3 refine W_guard_no rfl rfl rfl ?_)
          | (iterate 3 refine W_guard_un rfl rfl ?_)
          | (refine W_guard_yes rfl ?_
             refine W_move rfl rfl ?_
             refine W_guard_yes rfl ?_
             refine W_move rfl rfl ?_
             refine W_guard_yes rfl ?_
             first
               | (refine W_beql_t Tryd.underlying4 rfl rfl rfl rfl ?_)
               | (refine W_beql_f Tryd.underlying4 rfl rfl rfl rfl ?_)
               | (refine W_beql Tryd.underlying4 rfl rfl rfl ?_))
        first
          | (refine W_pick_t rfl rfl rfl ?_)
          | (refine W_pick_f rfl rfl rfl ?_)
          | (refine W_pick_b rfl rfl rfl rfl ?_)
        refine W_assign rfl rfl ?_
        refine W_nil ?_
        refine N_then_k ?_
        refine K_ret ?_
        refine N_done1 (.inr rfl) rfl rfl ?_
        exact ⟨_, rfl, rfl, hp.nil⟩))))

theorem CredInverse_walk (w0 : World) (hK : Roots w0) (a b : List UInt8) (n : UInt8) : PureAt Tryd.prog 4 [.string ⟨a.toArray⟩, .string ⟨b.toArray⟩, .int .u8 (n.toNat : Int)] (.bool true) w0 := by
  have hu := n.toNat_lt
  have hcl : (ctextF a b).length = 6 + (a.length + b.length + 1 + 2) / 3 * 4 := by unfold ctextF; rw [List.length_append, enc64_length]; simp [Nat.add_assoc]
  refine PureAt.intro go4 Tryd.func4 rfl rfl fun hp => ?_
  refine (fun (hk : ∀ w, Hp w0 [] [] w → K _ _ _ _ _ w) => hk w0 hp) fun w hp => ?_
  refine K_seq ?_
  refine K_region ?_
  refine W_assign rfl rfl ?_
  refine W_nil ?_
  refine N_then_k ?_
  refine K_seq ?_
  refine K_seq ?_
  refine K_region ?_
  refine W_acall hp rfl ((awake_spec w (hK.keep hp))) rfl ?_
  clear hp; intro w hp
  first
    | (refine W_not_t rfl rfl ?_)
    | (refine W_not_f rfl rfl ?_)
    | (refine W_not rfl rfl ?_)
  refine W_move rfl rfl ?_
  first
    | refine W_guard_lit_t rfl ?_
    | refine W_guard_lit_f rfl ?_
    | refine W_guard_lit_u rfl ?_
    | refine W_guard_split_d rfl rfl rfl (fun hg1 => ?_) (fun hg1 => ?_)
    | refine W_guard_split_n rfl rfl rfl (fun hg1 => ?_) (fun hg1 => ?_)
    | refine W_guard_split_nb rfl rfl rfl (fun hg1 => ?_) (fun hg1 => ?_)
    | refine W_guard_split rfl rfl rfl (fun hg1 => ?_) (fun hg1 => ?_)
  all_goals try (exfalso; first | omega | (simp only [Bool.false_eq_true, reduceCtorEq] at hg1; done) | (refine absurd hg1 ?_; with_reducible assumption) | (refine absurd ?_ hg1; with_reducible assumption))
  all_goals (
   first
     | (iterate 3 refine W_guard_no rfl rfl rfl ?_)
     | (iterate 3 refine W_guard_un rfl rfl ?_)
     | (refine W_guard_yes rfl ?_
        refine W_move rfl rfl ?_
        refine W_guard_yes rfl ?_
        refine W_len_s Tryd.underlying9 rfl rfl ?_
        refine W_guard_yes rfl ?_
        first
          | (refine W_gtr_t rfl rfl ?_ rfl ?_; (focus (omega)))
          | (refine W_gtr_f rfl rfl ?_ rfl ?_; (focus (omega)))
          | (refine W_gtr rfl rfl rfl ?_))
   first
     | (refine W_pick_t rfl rfl rfl ?_)
     | (refine W_pick_f rfl rfl rfl ?_)
     | (refine W_pick_b rfl rfl rfl rfl ?_)
   refine W_move rfl rfl ?_
   first
     | refine W_guard_lit_t rfl ?_
     | refine W_guard_lit_f rfl ?_
     | refine W_guard_lit_u rfl ?_
     | refine W_guard_split_d rfl rfl rfl (fun hg2 => ?_) (fun hg2 => ?_)
     | refine W_guard_split_n rfl rfl rfl (fun hg2 => ?_) (fun hg2 => ?_)
     | refine W_guard_split_nb rfl rfl rfl (fun hg2 => ?_) (fun hg2 => ?_)
     | refine W_guard_split rfl rfl rfl (fun hg2 => ?_) (fun hg2 => ?_)
   all_goals try (exfalso; first | omega | (simp only [Bool.false_eq_true, reduceCtorEq] at hg2; done) | (refine absurd hg2 ?_; with_reducible assumption) | (refine absurd ?_ hg2; with_reducible assumption))
   all_goals (
    first
      | (iterate 3 refine W_guard_no rfl rfl rfl ?_)
      | (iterate 3 refine W_guard_un rfl rfl ?_)
      | (refine W_guard_yes rfl ?_
         refine W_move rfl rfl ?_
         refine W_guard_yes rfl ?_
         refine W_len_s Tryd.underlying9 rfl rfl ?_
         refine W_guard_yes rfl ?_
         first
           | (refine W_gtr_t rfl rfl ?_ rfl ?_; (focus (omega)))
           | (refine W_gtr_f rfl rfl ?_ rfl ?_; (focus (omega)))
           | (refine W_gtr rfl rfl rfl ?_))
    first
      | (refine W_pick_t rfl rfl rfl ?_)
      | (refine W_pick_f rfl rfl rfl ?_)
      | (refine W_pick_b rfl rfl rfl rfl ?_)
    refine W_nil ?_
    refine N_then_k ?_
    first
      | refine K_cond_d rfl (fun hc3 => ?_) (fun hc3 => ?_)
      | refine K_cond_n rfl (fun hc3 => ?_) (fun hc3 => ?_)
      | refine K_cond_nb rfl (fun hc3 => ?_) (fun hc3 => ?_)
      | refine K_cond_t rfl (fun hc3 => ?_) (fun hc3 => ?_)
    · try (exfalso; first | omega | (simp only [Bool.false_eq_true, reduceCtorEq] at hc3; done) | (refine absurd hc3 ?_; with_reducible assumption) | (refine absurd ?_ hc3; with_reducible assumption))
      all_goals (
       refine K_seq ?_
       refine K_region ?_
       refine W_acall hp rfl ((awake_spec w (hK.keep hp))) rfl ?_
       clear hp; intro w hp
       refine W_assign rfl rfl ?_
       refine W_nil ?_
       refine N_then_k ?_
       refine K_ret ?_
       refine N_then_ret ?_
       refine N_done1 (.inr rfl) rfl rfl ?_
       exact ⟨_, rfl, rfl, hp.nil⟩)
    · try (exfalso; first | omega | (simp only [Bool.false_eq_true, reduceCtorEq] at hc3; done) | (refine absurd hc3 ?_; with_reducible assumption) | (refine absurd ?_ hc3; with_reducible assumption))
      all_goals (
       refine K_skip ?_
       refine N_then_k ?_
       refine K_seq ?_
       refine K_region ?_
       refine W_move rfl rfl ?_
       refine W_move rfl rfl ?_
       refine W_acall hp rfl ((ctext_spec w a b (by omega) (by omega))) rfl ?_
       clear hp; intro w hp
       refine W_assign rfl rfl ?_
       refine W_nil ?_
       refine N_then_k ?_
       refine K_seq ?_
       refine K_seq ?_
       refine K_region ?_
       refine W_move rfl rfl ?_
       refine W_move rfl rfl ?_
       refine W_move rfl rfl ?_
       refine W_acall hp rfl ((rctext_spec w a b (by omega) (by omega))) rfl ?_
       clear hp; intro w hp
       first
         | (refine W_sneq_f rfl rfl ?_ rfl ?_; (focus (first | rfl | assumption)))
         | (refine W_sneq_t rfl rfl ?_ rfl ?_; (focus (first | assumption | decide | exact List.cons_ne_nil _ _)))
         | (refine W_sneq rfl rfl rfl ?_)
       refine W_nil ?_
       refine N_then_k ?_
       first
         | refine K_cond_d rfl (fun hc4 => ?_) (fun hc4 => ?_)
         | refine K_cond_n rfl (fun hc4 => ?_) (fun hc4 => ?_)
         | refine K_cond_nb rfl (fun hc4 => ?_) (fun hc4 => ?_)
         | refine K_cond_t rfl (fun hc4 => ?_) (fun hc4 => ?_)
       · try (exfalso; first | omega | (simp only [Bool.false_eq_true, reduceCtorEq] at hc4; done) | (refine absurd hc4 ?_; with_reducible assumption) | (refine absurd ?_ hc4; with_reducible assumption))
         all_goals (
          refine K_seq ?_
          refine K_region ?_
          refine W_assign rfl rfl ?_
          refine W_nil ?_
          refine N_then_k ?_
          refine K_ret ?_
          refine N_then_ret ?_
          refine N_done1 (.inr rfl) rfl rfl ?_
          exact ⟨_, rfl, rfl, hp.nil⟩)
       · try (exfalso; first | omega | (simp only [Bool.false_eq_true, reduceCtorEq] at hc4; done) | (refine absurd hc4 ?_; with_reducible assumption) | (refine absurd ?_ hc4; with_reducible assumption))
         all_goals (
          refine K_skip ?_
          refine N_then_k ?_
          refine K_seq ?_
          refine K_seq ?_
          refine K_region ?_
          by_cases hno : (58 : UInt8) ∈ a
          all_goals (
           refine W_move rfl rfl ?_
           refine W_pcall hp rfl ((in_spec 58 a (by omega)).eq (congrArg Value.bool (show decide ((58 : UInt8) ∈ a) = _ from by first | exact decide_eq_true hno | exact decide_eq_false hno))) rfl ?_
           clear hp; intro w hp
           refine W_nil ?_
           refine N_then_k ?_
           first
             | refine K_cond_d rfl (fun hc5 => ?_) (fun hc5 => ?_)
             | refine K_cond_n rfl (fun hc5 => ?_) (fun hc5 => ?_)
             | refine K_cond_nb rfl (fun hc5 => ?_) (fun hc5 => ?_)
             | refine K_cond_t rfl (fun hc5 => ?_) (fun hc5 => ?_)
           · try (exfalso; first | omega | (simp only [Bool.false_eq_true, reduceCtorEq] at hc5; done) | (refine absurd hc5 ?_; with_reducible assumption) | (refine absurd ?_ hc5; with_reducible assumption))
             all_goals (
              refine K_seq ?_
              refine K_region ?_
              refine W_assign rfl rfl ?_
              refine W_nil ?_
              refine N_then_k ?_
              refine K_ret ?_
              refine N_then_ret ?_
              refine N_done1 (.inr rfl) rfl rfl ?_
              exact ⟨_, rfl, rfl, hp.nil⟩)
           · try (exfalso; first | omega | (simp only [Bool.false_eq_true, reduceCtorEq] at hc5; done) | (refine absurd hc5 ?_; with_reducible assumption) | (refine absurd ?_ hc5; with_reducible assumption))
             all_goals (
              refine K_skip ?_
              refine N_then_k ?_
              refine K_seq ?_
              refine K_region ?_
              refine W_assign rfl rfl ?_
              refine W_nil ?_
              refine N_then_k ?_
              refine K_seq ?_
              refine K_seq ?_
              refine K_region ?_
              refine W_assign rfl rfl ?_
              refine W_nil ?_
              refine N_then_k ?_
              refine K_block ?_
              refine K_loop (σ := Nat) [8, 9, 36, 37, 38, 39, 40, 41, 42, 43, 44]
                  (fun k => [(9, .int .i64 k), (8, .string ⟨(List.replicate (k + 1) (32 : UInt8)).toArray⟩)])
                  (fun k w => Hp w0 [] [] w ∧ k ≤ n.toNat % 10)
                  (fun k => n.toNat % 10 - k) (0) ?_ ?_ ?_
              · repeat' (first | exact sub_lst_nil (sub_nil _) | refine sub_lst rfl ?_ | (refine sub_lst_eq rfl ?_ ?_; · first | rfl | (simp; done) | (congr 1; omega)))
              · exact ⟨by simpa using hp, Nat.zero_le _⟩
              · intro k w hJ
                clear hp
                obtain ⟨hp, hle⟩ := hJ
                have hrl : (List.replicate (k + 1) (32 : UInt8)).length = k + 1 := by simp
                rcases Nat.lt_or_ge k (n.toNat % 10) with hlt | hge
                all_goals (
                 refine K_seq ?_
                 refine K_seq ?_
                 refine K_region ?_
                 refine W_move rfl rfl ?_
                 refine W_move rfl rfl ?_
                 first
                   | (refine W_conv_i Tryd.underlying5 Tryd.underlying3 rfl (wr_i64 ?_) rfl ?_; (focus (first | omega | (have := u8_lt ‹_›; omega))))
                   | (refine W_conv_i Tryd.underlying5 Tryd.underlying3 rfl rfl rfl ?_)
                 refine W_rem (r := ((n.toNat % 10 : Nat) : Int)) rfl rfl (by decide) rfl rfl ?_
                 first
                   | (refine W_lss_t rfl rfl ?_ rfl ?_; (focus (omega)))
                   | (refine W_lss_f rfl rfl ?_ rfl ?_; (focus (omega)))
                   | (refine W_lss rfl rfl rfl ?_)
                 refine W_nil ?_
                 refine N_then_k ?_
                 first
                   | refine K_cond_d rfl (fun hc6 => ?_) (fun hc6 => ?_)
                   | refine K_cond_n rfl (fun hc6 => ?_) (fun hc6 => ?_)
                   | refine K_cond_nb rfl (fun hc6 => ?_) (fun hc6 => ?_)
                   | refine K_cond_t rfl (fun hc6 => ?_) (fun hc6 => ?_)
                 · try (exfalso; first | omega | (simp only [Bool.false_eq_true, reduceCtorEq] at hc6; done) | (refine absurd hc6 ?_; with_reducible assumption) | (refine absurd ?_ hc6; with_reducible assumption))
                   all_goals (
                    refine K_skip ?_
                    refine N_then_k ?_
                    refine K_seq ?_
                    refine K_block ?_
                    refine K_region ?_
                    refine W_move rfl rfl ?_
                    refine W_sadd rfl rfl ?_ rfl ?_
                    (focus (first | omega | (simp only [List.length_append, List.length_cons, List.length_nil, List.length_drop, List.length_take] at *; omega) | (simp; omega)))
                    refine W_assign rfl rfl ?_
                    refine W_nil ?_
                    refine N_block_normal ?_
                    refine N_then_k ?_
                    refine K_region ?_
                    refine W_move rfl rfl ?_
                    first
                      | (refine W_add rfl rfl (wr_i64 ?_) rfl ?_; (focus (omega)))
                      | (refine W_add rfl rfl rfl rfl ?_)
                    refine W_assign rfl rfl ?_
                    refine W_nil ?_
                    refine N_again (k + 1) (sub_end ?_ ?_) ?_ ?_
                    · repeat' (first | exact sub_lst_nil (sub_nil _) | refine sub_lst rfl ?_ | (refine sub_lst_eq rfl ?_ ?_; · first | rfl | ((refine congrArg strV ?_; first | exact List.replicate_succ' | exact List.replicate_succ'.symm)) | (simp; done) | (congr 1; omega)))
                    · repeat' (first | exact sub_refl _ | exact sub_strip _ _ | refine sub_s_cons rfl ?_ | refine sub_s_lst rfl ?_ | refine sub_s_strip rfl ?_)
                    · exact ⟨hp, hlt⟩
                    · omega)
                 · try (exfalso; first | omega | (simp only [Bool.false_eq_true, reduceCtorEq] at hc6; done) | (refine absurd hc6 ?_; with_reducible assumption) | (refine absurd ?_ hc6; with_reducible assumption))
                   all_goals (
                    refine K_exit ?_
                    refine N_then_exit ?_
                    refine N_then_exit ?_
                    refine N_block_exit ?_
                    refine N_then_k ?_
                    refine K_seq ?_
                    refine K_region ?_
                    refine W_move rfl rfl ?_
                    refine W_sadd rfl rfl ?_ rfl ?_
                    (focus (first | omega | (simp only [List.length_append, List.length_cons, List.length_nil, List.length_drop, List.length_take] at *; omega) | (simp; omega)))
                    refine W_move rfl rfl ?_
                    refine W_slice_sl Tryd.underlying9 rfl rfl ?_ ?_ rfl ?_
                    (focus (first | omega | (simp; omega) | (simp only [List.length_drop, List.length_take, List.length_append]; omega)))
                    (focus (first | omega | (simp; omega) | (simp only [List.length_drop, List.length_take, List.length_append]; omega)))
                    refine W_sadd rfl rfl ?_ rfl ?_
                    (focus (first | omega | (simp only [List.length_append, List.length_cons, List.length_nil, List.length_drop, List.length_take] at *; omega) | (simp; omega)))
                    refine W_acall hp rfl (((cparse_spec w ([98, 65, 83, 73, 67] ++ List.replicate (k + 1) 32 ++ (ctextF a b).drop 6) (by rw [List.length_append, List.length_append, List.length_drop, hrl]; simp only [List.length_cons, List.length_nil]; omega)).eq (credV_of (cred_back hno k)))) rfl ?_
                    clear hp; intro w hp
                    refine W_move rfl rfl ?_
                    refine W_extract rfl rfl rfl ?_
                    refine W_extract rfl rfl rfl ?_
                    refine W_extract rfl rfl rfl ?_
                    refine W_assign rfl rfl ?_
                    refine W_assign rfl rfl ?_
                    refine W_assign rfl rfl ?_
                    refine W_nil ?_
                    refine N_then_k ?_
                    refine K_seq ?_
                    refine K_region ?_
                    refine W_move rfl rfl ?_
                    refine W_move rfl rfl ?_
                    first
                      | (refine W_seql_t rfl rfl ?_ rfl ?_; (focus (first | rfl | assumption)))
                      | (refine W_seql_f rfl rfl ?_ rfl ?_; (focus (first | assumption | decide | exact List.cons_ne_nil _ _)))
                      | (refine W_seql rfl rfl rfl ?_)
                    refine W_move rfl rfl ?_
                    first
                      | refine W_guard_lit_t rfl ?_
                      | refine W_guard_lit_f rfl ?_
                      | refine W_guard_lit_u rfl ?_
                      | refine W_guard_split_d rfl rfl rfl (fun hg7 => ?_) (fun hg7 => ?_)
                      | refine W_guard_split_n rfl rfl rfl (fun hg7 => ?_) (fun hg7 => ?_)
                      | refine W_guard_split_nb rfl rfl rfl (fun hg7 => ?_) (fun hg7 => ?_)
                      | refine W_guard_split rfl rfl rfl (fun hg7 => ?_) (fun hg7 => ?_)
                    all_goals try (exfalso; first | omega | (simp only [Bool.false_eq_true, reduceCtorEq] at hg7; done) | (refine absurd hg7 ?_; with_reducible assumption) | (refine absurd ?_ hg7; with_reducible assumption))
                    all_goals (
                     first
                       | (iterate 3 refine W_guard_no rfl rfl rfl ?_)
                       | (iterate 3 refine W_guard_un rfl rfl ?_)
                       | (refine W_guard_yes rfl ?_
                          refine W_move rfl rfl ?_
                          refine W_guard_yes rfl ?_
                          refine W_move rfl rfl ?_
                          refine W_guard_yes rfl ?_
                          first
                            | (refine W_seql_t rfl rfl ?_ rfl ?_; (focus (first | rfl | assumption)))
                            | (refine W_seql_f rfl rfl ?_ rfl ?_; (focus (first | assumption | decide | exact List.cons_ne_nil _ _)))
                            | (refine W_seql rfl rfl rfl ?_))
                     first
                       | (refine W_pick_t rfl rfl rfl ?_)
                       | (refine W_pick_f rfl rfl rfl ?_)
                       | (refine W_pick_b rfl rfl rfl rfl ?_)
                     refine W_move rfl rfl ?_
                     first
                       | refine W_guard_lit_t rfl ?_
                       | refine W_guard_lit_f rfl ?_
                       | refine W_guard_lit_u rfl ?_
                       | refine W_guard_split_d rfl rfl rfl (fun hg8 => ?_) (fun hg8 => ?_)
                       | refine W_guard_split_n rfl rfl rfl (fun hg8 => ?_) (fun hg8 => ?_)
                       | refine W_guard_split_nb rfl rfl rfl (fun hg8 => ?_) (fun hg8 => ?_)
                       | refine W_guard_split rfl rfl rfl (fun hg8 => ?_) (fun hg8 => ?_)
                     all_goals try (exfalso; first | omega | (simp only [Bool.false_eq_true, reduceCtorEq] at hg8; done) | (refine absurd hg8 ?_; with_reducible assumption) | (refine absurd ?_ hg8; with_reducible assumption))
                     all_goals (
                      first
                        | (refine W_guard_no rfl rfl rfl ?_)
                        | (refine W_guard_un rfl rfl ?_)
                        | (refine W_guard_yes rfl ?_
                           refine W_move rfl rfl ?_)
                      first
                        | (refine W_pick_t rfl rfl rfl ?_)
                        | (refine W_pick_f rfl rfl rfl ?_)
                        | (refine W_pick_b rfl rfl rfl rfl ?_)
                      refine W_assign rfl rfl ?_
                      refine W_nil ?_
                      refine N_then_k ?_
                      refine K_ret ?_
                      refine N_done1 (.inr rfl) rfl rfl ?_
                      exact ⟨_, rfl, rfl, hp.nil⟩))))))))))

end Go.Proofs.YtbdmaiipohfnaaaDoor
