/-
  The fixed examples of package digest, and the laws, walked.
-/
import Derived.Test.YtpkcoeocdimjoaaDoorShaY
import Derived.Test.YtpkcoeocdimjoaaDoorShaQ
import Derived.Test.YtpkcoeocdimjoaaDoorShaE
namespace Go.Proofs.YtpkcoeocdimjoaaDoor
open Go.Sx Go.RowKit
set_option linter.unusedVariables false
set_option linter.unusedSimpArgs false
set_option maxRecDepth 100000

def nilX : List UInt8 := [101, 51, 98, 48, 99, 52, 52, 50, 57, 56, 102, 99, 49, 99, 49, 52, 57, 97, 102, 98, 102, 52, 99, 56, 57, 57, 54, 102, 98, 57, 50, 52, 50, 55, 97, 101, 52, 49, 101, 52, 54, 52, 57, 98, 57, 51, 52, 99, 97, 52, 57, 53, 57, 57, 49, 98, 55, 56, 53, 50, 98, 56, 53, 53]
def abcX : List UInt8 := [98, 97, 55, 56, 49, 54, 98, 102, 56, 102, 48, 49, 99, 102, 101, 97, 52, 49, 52, 49, 52, 48, 100, 101, 53, 100, 97, 101, 50, 50, 50, 51, 98, 48, 48, 51, 54, 49, 97, 51, 57, 54, 49, 55, 55, 97, 57, 99, 98, 52, 49, 48, 102, 102, 54, 49, 102, 50, 48, 48, 49, 53, 97, 100]
theorem nilH : hexL nilD = nilX := by decide +kernel
theorem abcH : hexL abcD = abcX := by decide +kernel
theorem abcR : rightB abcX = true := by decide +kernel
theorem abcU : parseF abcX = abcD := by decide +kernel

theorem awake_spec (w0 : World) (hK : Roots w0) : PureAt Tryd.prog 8 [] (.bool true) w0 := by
  refine PureAt.intro go8 Tryd.func8 rfl rfl fun hp => ?_
  refine (fun (hk : ∀ w, Hp w0 [] [] w → K _ _ _ _ _ w) => hk w0 hp) fun w hp => ?_
  refine K_seq ?_
  refine K_region ?_
  refine W_assign rfl rfl ?_
  refine W_nil ?_
  refine N_then_k ?_
  refine K_seq ?_
  refine K_region ?_
  refine W_acall hp rfl (((sum_spec w (hK.keep hp) [97, 98, 99] (by decide)).eq (congrArg (fun l : List UInt8 => Value.agg (bytesV l).toArray) abcS))) rfl ?_
  clear hp; intro w hp
  refine W_acall hp rfl (((dhex_spec w abcD rfl).eq (congrArg strV abcH))) rfl ?_
  clear hp; intro w hp
  refine W_acall hp rfl (((parse_spec w abcX (by decide)).eq (show Value.tuple #[.agg (bytesV (parseF abcX)).toArray, .bool (rightB abcX)] = .tuple #[.agg (bytesV abcD).toArray, .bool true] by rw [abcU, abcR]))) rfl ?_
  clear hp; intro w hp
  refine W_move rfl rfl ?_
  refine W_extract rfl rfl rfl ?_
  refine W_extract rfl rfl rfl ?_
  refine W_alloc hp zv23 rfl rfl ?_
  clear hp; intro b1 w hp
  refine W_storeF (A := []) (cs := bytesV abcD) hp rfl sz23 rfl rfl rfl (by rw [bytesV_len]; exact rfl) ?_ ?_ ?_ (by simp [bytesV]) ?_
  · simp
  · exact .inl (Nat.zero_le _)
  · exact bytesV_one
  clear hp; intro w hp
  refine W_assign rfl rfl ?_
  refine W_nil ?_
  refine N_then_k ?_
  refine K_seq ?_
  refine K_quiet hm hp (by kernel_rfl) ?_
  clear hp
  refine Wq_acall rfl (fun w hp => ((sum_spec w (hK.keep hp) [] (by decide)).eq (congrArg (fun l : List UInt8 => Value.agg (bytesV l).toArray) nilS))) rfl ?_
  refine Wq_acall rfl (fun w hp => ((dhex_spec w nilD rfl).eq (congrArg strV nilH))) rfl ?_
  first
    | (refine Wq_val (fun w hp => R_seql_t rfl rfl ?_) rfl ?_; (focus (first | rfl | assumption)))
    | (refine Wq_val (fun w hp => R_seql_f rfl rfl ?_) rfl ?_; (focus (first | assumption | decide | exact List.cons_ne_nil _ _)))
    | (refine Wq_val (fun w hp => R_seql rfl rfl) rfl ?_)
  refine Wq_val (fun w hp => R_move rfl) rfl ?_
  first
    | refine Wq_guard_lit_t rfl ?_
    | refine Wq_guard_lit_f rfl ?_
    | refine Wq_guard_lit_u rfl ?_
    | refine Wq_guard_split_d rfl rfl rfl (fun hg1 => ?_) (fun hg1 => ?_)
    | refine Wq_guard_split_n rfl rfl rfl (fun hg1 => ?_) (fun hg1 => ?_)
    | refine Wq_guard_split_nb rfl rfl rfl (fun hg1 => ?_) (fun hg1 => ?_)
    | refine Wq_guard_split rfl rfl rfl (fun hg1 => ?_) (fun hg1 => ?_)
  all_goals try (exfalso; first | omega | (simp only [Bool.false_eq_true, reduceCtorEq] at hg1; done) | (refine absurd hg1 ?_; with_reducible assumption) | (refine absurd ?_ hg1; with_reducible assumption))
  all_goals (
   first
     | (iterate 3 refine Wq_guard_no rfl rfl rfl ?_)
     | (iterate 3 refine Wq_guard_un rfl rfl ?_)
     | (refine Wq_guard_yes rfl ?_
        refine Wq_acall rfl (fun w hp => ((sum_spec w (hK.keep hp) [97, 98, 99] (by decide)).eq (congrArg (fun l : List UInt8 => Value.agg (bytesV l).toArray) abcS))) rfl ?_
        refine Wq_guard_yes rfl ?_
        refine Wq_acall rfl (fun w hp => ((dhex_spec w abcD rfl).eq (congrArg strV abcH))) rfl ?_
        refine Wq_guard_yes rfl ?_
        first
          | (refine Wq_val (fun w hp => R_seql_t rfl rfl ?_) rfl ?_; (focus (first | rfl | assumption)))
          | (refine Wq_val (fun w hp => R_seql_f rfl rfl ?_) rfl ?_; (focus (first | assumption | decide | exact List.cons_ne_nil _ _)))
          | (refine Wq_val (fun w hp => R_seql rfl rfl) rfl ?_))
   first
     | (refine Wq_val (fun w hp => R_pick_t rfl rfl) rfl ?_)
     | (refine Wq_val (fun w hp => R_pick_f rfl rfl) rfl ?_)
     | (refine Wq_val (fun w hp => R_pick_b rfl rfl rfl) rfl ?_)
   refine Wq_val (fun w hp => R_move rfl) rfl ?_
   first
     | refine Wq_guard_lit_t rfl ?_
     | refine Wq_guard_lit_f rfl ?_
     | refine Wq_guard_lit_u rfl ?_
     | refine Wq_guard_split_d rfl rfl rfl (fun hg2 => ?_) (fun hg2 => ?_)
     | refine Wq_guard_split_n rfl rfl rfl (fun hg2 => ?_) (fun hg2 => ?_)
     | refine Wq_guard_split_nb rfl rfl rfl (fun hg2 => ?_) (fun hg2 => ?_)
     | refine Wq_guard_split rfl rfl rfl (fun hg2 => ?_) (fun hg2 => ?_)
   all_goals try (exfalso; first | omega | (simp only [Bool.false_eq_true, reduceCtorEq] at hg2; done) | (refine absurd hg2 ?_; with_reducible assumption) | (refine absurd ?_ hg2; with_reducible assumption))
   all_goals (
    first
      | (refine Wq_guard_no rfl rfl rfl ?_)
      | (refine Wq_guard_un rfl rfl ?_)
      | (refine Wq_guard_yes rfl ?_
         refine Wq_val (fun w hp => R_move rfl) rfl ?_)
    first
      | (refine Wq_val (fun w hp => R_pick_t rfl rfl) rfl ?_)
      | (refine Wq_val (fun w hp => R_pick_f rfl rfl) rfl ?_)
      | (refine Wq_val (fun w hp => R_pick_b rfl rfl rfl) rfl ?_)
    refine Wq_val (fun w hp => R_move rfl) rfl ?_
    first
      | refine Wq_guard_lit_t rfl ?_
      | refine Wq_guard_lit_f rfl ?_
      | refine Wq_guard_lit_u rfl ?_
      | refine Wq_guard_split_d rfl rfl rfl (fun hg3 => ?_) (fun hg3 => ?_)
      | refine Wq_guard_split_n rfl rfl rfl (fun hg3 => ?_) (fun hg3 => ?_)
      | refine Wq_guard_split_nb rfl rfl rfl (fun hg3 => ?_) (fun hg3 => ?_)
      | refine Wq_guard_split rfl rfl rfl (fun hg3 => ?_) (fun hg3 => ?_)
    all_goals try (exfalso; first | omega | (simp only [Bool.false_eq_true, reduceCtorEq] at hg3; done) | (refine absurd hg3 ?_; with_reducible assumption) | (refine absurd ?_ hg3; with_reducible assumption))
    all_goals (
     first
       | (iterate 3 refine Wq_guard_no rfl rfl rfl ?_)
       | (iterate 3 refine Wq_guard_un rfl rfl ?_)
       | (refine Wq_guard_yes rfl ?_
          refine Wq_val (fun w hp => R_load_own Tryd.underlying23 rfl sz23 rfl hp (by first | exact List.mem_cons_self | exact .tail _ (.head _) | exact .tail _ (.tail _ (.head _)) | exact .tail _ (.tail _ (.tail _ (.head _))) | exact .tail _ (.tail _ (.tail _ (.tail _ (.head _)))) | exact .tail _ (.tail _ (.tail _ (.tail _ (.tail _ (.head _))))) | exact List.mem_append_right _ (.head _) | exact List.mem_append_right _ (.tail _ (.head _)) | exact List.mem_append_right _ (.tail _ (.tail _ (.head _))) | exact .tail _ (List.mem_append_right _ (.head _)) | exact .tail _ (List.mem_append_right _ (.tail _ (.head _))) | assumption | (repeat (first | exact List.mem_cons_self | apply List.mem_append_right | apply List.mem_cons_of_mem))) rfl rfl) rfl ?_
          refine Wq_guard_yes rfl ?_
          refine Wq_acall rfl (fun w hp => ((sum_spec w (hK.keep hp) [97, 98, 99] (by decide)).eq (congrArg (fun l : List UInt8 => Value.agg (bytesV l).toArray) abcS))) rfl ?_
          refine Wq_guard_yes rfl ?_
          refine Wq_val (fun w hp => R_aeql_t (by kernel_rfl) rfl rfl ?_ ?_) rfl ?_
          (focus (first | rfl | assumption))
          (focus (first | rfl | kernel_rfl)))
     first
       | (refine Wq_val (fun w hp => R_pick_t rfl rfl) rfl ?_)
       | (refine Wq_val (fun w hp => R_pick_f rfl rfl) rfl ?_)
       | (refine Wq_val (fun w hp => R_pick_b rfl rfl rfl) rfl ?_)
     refine Wq_val (fun w hp => R_assign rfl) rfl ?_
     refine Wq_end ?_
     intro w hp
     refine N_then_k ?_
     refine K_ret ?_
     refine N_done1 (.inr rfl) rfl rfl ?_
     exact ⟨_, rfl, rfl, hp.nil⟩)))

theorem DigestMatchesReference_walk (w0 : World) (hK : Roots w0) (s : List UInt8) : PureAt Tryd.prog 3 [.string ⟨s.toArray⟩] (.bool true) w0 := by
  refine PureAt.intro go3 Tryd.func3 rfl rfl fun hp => ?_
  refine (fun (hk : ∀ w, Hp w0 [] [] w → K _ _ _ _ _ w) => hk w0 hp) fun w hp => ?_
  refine K_seq ?_
  refine K_region ?_
  refine W_assign rfl rfl ?_
  refine W_nil ?_
  refine N_then_k ?_
  refine K_seq ?_
  refine K_seq ?_
  refine K_region ?_
  refine W_acall hp rfl ((awake_spec w (hK.keep hp))) rfl ?_
  clear hp; intro w hp
  first
    | (refine W_not_t rfl rfl ?_)
    | (refine W_not_f rfl rfl ?_)
    | (refine W_not rfl rfl ?_)
  refine W_move rfl rfl ?_
  first
    | refine W_guard_lit_t rfl ?_
    | refine W_guard_lit_f rfl ?_
    | refine W_guard_lit_u rfl ?_
    | refine W_guard_split_d rfl rfl rfl (fun hg1 => ?_) (fun hg1 => ?_)
    | refine W_guard_split_n rfl rfl rfl (fun hg1 => ?_) (fun hg1 => ?_)
    | refine W_guard_split_nb rfl rfl rfl (fun hg1 => ?_) (fun hg1 => ?_)
    | refine W_guard_split rfl rfl rfl (fun hg1 => ?_) (fun hg1 => ?_)
  all_goals try (exfalso; first | omega | (simp only [Bool.false_eq_true, reduceCtorEq] at hg1; done) | (refine absurd hg1 ?_; with_reducible assumption) | (refine absurd ?_ hg1; with_reducible assumption))
  all_goals (
   first
     | (iterate 3 refine W_guard_no rfl rfl rfl ?_)
     | (iterate 3 refine W_guard_un rfl rfl ?_)
     | (refine W_guard_yes rfl ?_
        refine W_move rfl rfl ?_
        refine W_guard_yes rfl ?_
        refine W_len_s Tryd.underlying9 rfl rfl ?_
        refine W_guard_yes rfl ?_
        first
          | (refine W_gtr_t rfl rfl ?_ rfl ?_; (focus (omega)))
          | (refine W_gtr_f rfl rfl ?_ rfl ?_; (focus (omega)))
          | (refine W_gtr rfl rfl rfl ?_))
   first
     | (refine W_pick_t rfl rfl rfl ?_)
     | (refine W_pick_f rfl rfl rfl ?_)
     | (refine W_pick_b rfl rfl rfl rfl ?_)
   refine W_nil ?_
   refine N_then_k ?_
   first
     | refine K_cond_d rfl (fun hc2 => ?_) (fun hc2 => ?_)
     | refine K_cond_n rfl (fun hc2 => ?_) (fun hc2 => ?_)
     | refine K_cond_nb rfl (fun hc2 => ?_) (fun hc2 => ?_)
     | refine K_cond_t rfl (fun hc2 => ?_) (fun hc2 => ?_)
   · try (exfalso; first | omega | (simp only [Bool.false_eq_true, reduceCtorEq] at hc2; done) | (refine absurd hc2 ?_; with_reducible assumption) | (refine absurd ?_ hc2; with_reducible assumption))
     all_goals (
      refine K_seq ?_
      refine K_region ?_
      refine W_acall hp rfl ((awake_spec w (hK.keep hp))) rfl ?_
      clear hp; intro w hp
      refine W_assign rfl rfl ?_
      refine W_nil ?_
      refine N_then_k ?_
      refine K_ret ?_
      refine N_then_ret ?_
      refine N_done1 (.inr rfl) rfl rfl ?_
      exact ⟨_, rfl, rfl, hp.nil⟩)
   · try (exfalso; first | omega | (simp only [Bool.false_eq_true, reduceCtorEq] at hc2; done) | (refine absurd hc2 ?_; with_reducible assumption) | (refine absurd ?_ hc2; with_reducible assumption))
     all_goals (
      refine K_skip ?_
      refine N_then_k ?_
      refine K_seq ?_
      refine K_region ?_
      refine W_move rfl rfl ?_
      refine W_acall hp rfl ((sum_spec w (hK.keep hp) s (by omega))) rfl ?_
      clear hp; intro w hp
      refine W_move rfl rfl ?_
      refine W_bcall hp rfl ((table_spec w)) rfl ?_
      clear hp; intro v14 G14 w r14 hp
      obtain ⟨At, ct, rfl⟩ := r14.form
      refine W_acall hp rfl ((rsum_spec w s (by omega) At ct (OS.rdm (show OS _ _ _ _ _ _ from r14) (w := w) (fun p hq => hp.own p (by simp [hq]))))) rfl ?_
      clear hp; intro w hp
      refine W_aeql_t (by kernel_rfl) rfl rfl rfl (ok32 rfl) rfl ?_
      refine W_assign rfl rfl ?_
      refine W_nil ?_
      refine N_then_k ?_
      refine K_ret ?_
      refine N_done1 (.inr rfl) rfl rfl ?_
      exact ⟨_, rfl, rfl, hp.nil⟩))

theorem DigestSalted_walk (w0 : World) (hK : Roots w0) (a b c : List UInt8) : PureAt Tryd.prog 7 [.string ⟨a.toArray⟩, .string ⟨b.toArray⟩, .string ⟨c.toArray⟩] (.bool true) w0 := by
  have hrr := hexL_right (sumF_length (saltB a b c))
  have hhl := hexL_length (sumF (saltB a b c))
  have hsl := sumF_length (saltB a b c)
  refine PureAt.intro go7 Tryd.func7 rfl rfl fun hp => ?_
  refine (fun (hk : ∀ w, Hp w0 [] [] w → K _ _ _ _ _ w) => hk w0 hp) fun w hp => ?_
  refine K_seq ?_
  refine K_region ?_
  refine W_assign rfl rfl ?_
  refine W_nil ?_
  refine N_then_k ?_
  refine K_seq ?_
  refine K_seq ?_
  refine K_region ?_
  refine W_acall hp rfl ((awake_spec w (hK.keep hp))) rfl ?_
  clear hp; intro w hp
  first
    | (refine W_not_t rfl rfl ?_)
    | (refine W_not_f rfl rfl ?_)
    | (refine W_not rfl rfl ?_)
  refine W_move rfl rfl ?_
  first
    | refine W_guard_lit_t rfl ?_
    | refine W_guard_lit_f rfl ?_
    | refine W_guard_lit_u rfl ?_
    | refine W_guard_split_d rfl rfl rfl (fun hg1 => ?_) (fun hg1 => ?_)
    | refine W_guard_split_n rfl rfl rfl (fun hg1 => ?_) (fun hg1 => ?_)
    | refine W_guard_split_nb rfl rfl rfl (fun hg1 => ?_) (fun hg1 => ?_)
    | refine W_guard_split rfl rfl rfl (fun hg1 => ?_) (fun hg1 => ?_)
  all_goals try (exfalso; first | omega | (simp only [Bool.false_eq_true, reduceCtorEq] at hg1; done) | (refine absurd hg1 ?_; with_reducible assumption) | (refine absurd ?_ hg1; with_reducible assumption))
  all_goals (
   first
     | (iterate 3 refine W_guard_no rfl rfl rfl ?_)
     | (iterate 3 refine W_guard_un rfl rfl ?_)
     | (refine W_guard_yes rfl ?_
        refine W_move rfl rfl ?_
        refine W_guard_yes rfl ?_
        refine W_len_s Tryd.underlying9 rfl rfl ?_
        refine W_guard_yes rfl ?_
        first
          | (refine W_gtr_t rfl rfl ?_ rfl ?_; (focus (omega)))
          | (refine W_gtr_f rfl rfl ?_ rfl ?_; (focus (omega)))
          | (refine W_gtr rfl rfl rfl ?_))
   first
     | (refine W_pick_t rfl rfl rfl ?_)
     | (refine W_pick_f rfl rfl rfl ?_)
     | (refine W_pick_b rfl rfl rfl rfl ?_)
   refine W_move rfl rfl ?_
   first
     | refine W_guard_lit_t rfl ?_
     | refine W_guard_lit_f rfl ?_
     | refine W_guard_lit_u rfl ?_
     | refine W_guard_split_d rfl rfl rfl (fun hg2 => ?_) (fun hg2 => ?_)
     | refine W_guard_split_n rfl rfl rfl (fun hg2 => ?_) (fun hg2 => ?_)
     | refine W_guard_split_nb rfl rfl rfl (fun hg2 => ?_) (fun hg2 => ?_)
     | refine W_guard_split rfl rfl rfl (fun hg2 => ?_) (fun hg2 => ?_)
   all_goals try (exfalso; first | omega | (simp only [Bool.false_eq_true, reduceCtorEq] at hg2; done) | (refine absurd hg2 ?_; with_reducible assumption) | (refine absurd ?_ hg2; with_reducible assumption))
   all_goals (
    first
      | (iterate 3 refine W_guard_no rfl rfl rfl ?_)
      | (iterate 3 refine W_guard_un rfl rfl ?_)
      | (refine W_guard_yes rfl ?_
         refine W_move rfl rfl ?_
         refine W_guard_yes rfl ?_
         refine W_len_s Tryd.underlying9 rfl rfl ?_
         refine W_guard_yes rfl ?_
         first
           | (refine W_gtr_t rfl rfl ?_ rfl ?_; (focus (omega)))
           | (refine W_gtr_f rfl rfl ?_ rfl ?_; (focus (omega)))
           | (refine W_gtr rfl rfl rfl ?_))
    first
      | (refine W_pick_t rfl rfl rfl ?_)
      | (refine W_pick_f rfl rfl rfl ?_)
      | (refine W_pick_b rfl rfl rfl rfl ?_)
    refine W_move rfl rfl ?_
    first
      | refine W_guard_lit_t rfl ?_
      | refine W_guard_lit_f rfl ?_
      | refine W_guard_lit_u rfl ?_
      | refine W_guard_split_d rfl rfl rfl (fun hg3 => ?_) (fun hg3 => ?_)
      | refine W_guard_split_n rfl rfl rfl (fun hg3 => ?_) (fun hg3 => ?_)
      | refine W_guard_split_nb rfl rfl rfl (fun hg3 => ?_) (fun hg3 => ?_)
      | refine W_guard_split rfl rfl rfl (fun hg3 => ?_) (fun hg3 => ?_)
    all_goals try (exfalso; first | omega | (simp only [Bool.false_eq_true, reduceCtorEq] at hg3; done) | (refine absurd hg3 ?_; with_reducible assumption) | (refine absurd ?_ hg3; with_reducible assumption))
    all_goals (
     first
       | (iterate 3 refine W_guard_no rfl rfl rfl ?_)
       | (iterate 3 refine W_guard_un rfl rfl ?_)
       | (refine W_guard_yes rfl ?_
          refine W_move rfl rfl ?_
          refine W_guard_yes rfl ?_
          refine W_len_s Tryd.underlying9 rfl rfl ?_
          refine W_guard_yes rfl ?_
          first
            | (refine W_gtr_t rfl rfl ?_ rfl ?_; (focus (omega)))
            | (refine W_gtr_f rfl rfl ?_ rfl ?_; (focus (omega)))
            | (refine W_gtr rfl rfl rfl ?_))
     first
       | (refine W_pick_t rfl rfl rfl ?_)
       | (refine W_pick_f rfl rfl rfl ?_)
       | (refine W_pick_b rfl rfl rfl rfl ?_)
     refine W_nil ?_
     refine N_then_k ?_
     first
       | refine K_cond_d rfl (fun hc4 => ?_) (fun hc4 => ?_)
       | refine K_cond_n rfl (fun hc4 => ?_) (fun hc4 => ?_)
       | refine K_cond_nb rfl (fun hc4 => ?_) (fun hc4 => ?_)
       | refine K_cond_t rfl (fun hc4 => ?_) (fun hc4 => ?_)
     · try (exfalso; first | omega | (simp only [Bool.false_eq_true, reduceCtorEq] at hc4; done) | (refine absurd hc4 ?_; with_reducible assumption) | (refine absurd ?_ hc4; with_reducible assumption))
       all_goals (
        refine K_seq ?_
        refine K_region ?_
        refine W_acall hp rfl ((awake_spec w (hK.keep hp))) rfl ?_
        clear hp; intro w hp
        refine W_assign rfl rfl ?_
        refine W_nil ?_
        refine N_then_k ?_
        refine K_ret ?_
        refine N_then_ret ?_
        refine N_done1 (.inr rfl) rfl rfl ?_
        exact ⟨_, rfl, rfl, hp.nil⟩)
     · try (exfalso; first | omega | (simp only [Bool.false_eq_true, reduceCtorEq] at hc4; done) | (refine absurd hc4 ?_; with_reducible assumption) | (refine absurd ?_ hc4; with_reducible assumption))
       all_goals (
        refine K_skip ?_
        refine N_then_k ?_
        refine K_seq ?_
        refine K_region ?_
        refine W_move rfl rfl ?_
        refine W_move rfl rfl ?_
        refine W_move rfl rfl ?_
        refine W_acall hp rfl ((salted_spec w (hK.keep hp) a b c (by omega) (by omega) (by omega))) rfl ?_
        clear hp; intro w hp
        refine W_move rfl rfl ?_
        refine W_move rfl rfl ?_
        refine W_move rfl rfl ?_
        refine W_acall hp rfl ((rsalted_spec w a b c (by omega) (by omega) (by omega))) rfl ?_
        clear hp; intro w hp
        first
          | (refine W_seql_t rfl rfl ?_ rfl ?_; (focus (first | rfl | assumption)))
          | (refine W_seql_f rfl rfl ?_ rfl ?_; (focus (first | assumption | decide | exact List.cons_ne_nil _ _)))
          | (refine W_seql rfl rfl rfl ?_)
        refine W_move rfl rfl ?_
        first
          | refine W_guard_lit_t rfl ?_
          | refine W_guard_lit_f rfl ?_
          | refine W_guard_lit_u rfl ?_
          | refine W_guard_split_d rfl rfl rfl (fun hg5 => ?_) (fun hg5 => ?_)
          | refine W_guard_split_n rfl rfl rfl (fun hg5 => ?_) (fun hg5 => ?_)
          | refine W_guard_split_nb rfl rfl rfl (fun hg5 => ?_) (fun hg5 => ?_)
          | refine W_guard_split rfl rfl rfl (fun hg5 => ?_) (fun hg5 => ?_)
        all_goals try (exfalso; first | omega | (simp only [Bool.false_eq_true, reduceCtorEq] at hg5; done) | (refine absurd hg5 ?_; with_reducible assumption) | (refine absurd ?_ hg5; with_reducible assumption))
        all_goals (
         first
           | (iterate 5 refine W_guard_no rfl rfl rfl ?_)
           | (iterate 5 refine W_guard_un rfl rfl ?_)
           | (refine W_guard_yes rfl ?_
              refine W_move rfl rfl ?_
              refine W_guard_yes rfl ?_
              refine W_move rfl rfl ?_
              refine W_guard_yes rfl ?_
              refine W_move rfl rfl ?_
              refine W_guard_yes rfl ?_
              refine W_acall hp rfl ((salted_spec w (hK.keep hp) a b c (by omega) (by omega) (by omega))) rfl ?_
              clear hp; intro w hp
              refine W_guard_yes rfl ?_
              refine W_pcall hp rfl ((isright_spec (hexL (sumF (saltB a b c))) (by omega)).eq (congrArg Value.bool hrr)) rfl ?_
              clear hp; intro w hp)
         first
           | (refine W_pick_t rfl rfl rfl ?_)
           | (refine W_pick_f rfl rfl rfl ?_)
           | (refine W_pick_b rfl rfl rfl rfl ?_)
         refine W_assign rfl rfl ?_
         refine W_nil ?_
         refine N_then_k ?_
         refine K_ret ?_
         refine N_done1 (.inr rfl) rfl rfl ?_
         exact ⟨_, rfl, rfl, hp.nil⟩)))))

theorem DigestHex_walk (w0 : World) (hK : Roots w0) (D : List UInt8) (hDl : D.length = 32) : PureAt Tryd.prog 4 [.agg (bytesV D).toArray] (.bool true) w0 := by
  have hhl := hexL_length D
  have hpt : Value.tuple #[.agg (bytesV (parseF (hexL D))).toArray, .bool (rightB (hexL D))] = .tuple #[.agg (bytesV D).toArray, .bool true] := by rw [parse_hexL hDl, hexL_right hDl]
  refine PureAt.intro go4 Tryd.func4 rfl rfl fun hp => ?_
  refine (fun (hk : ∀ w, Hp w0 [] [] w → K _ _ _ _ _ w) => hk w0 hp) fun w hp => ?_
  refine K_seq ?_
  refine K_region ?_
  refine W_box hp rfl rfl rfl ?_
  clear hp; intro b1 w hp
  refine W_assign rfl rfl ?_
  refine W_nil ?_
  refine N_then_k ?_
  refine K_seq ?_
  refine K_seq ?_
  refine K_region ?_
  refine W_acall hp rfl ((awake_spec w (hK.keep hp))) rfl ?_
  clear hp; intro w hp
  first
    | (refine W_not_t rfl rfl ?_)
    | (refine W_not_f rfl rfl ?_)
    | (refine W_not rfl rfl ?_)
  refine W_nil ?_
  refine N_then_k ?_
  first
    | refine K_cond_d rfl (fun hc1 => ?_) (fun hc1 => ?_)
    | refine K_cond_n rfl (fun hc1 => ?_) (fun hc1 => ?_)
    | refine K_cond_nb rfl (fun hc1 => ?_) (fun hc1 => ?_)
    | refine K_cond_t rfl (fun hc1 => ?_) (fun hc1 => ?_)
  · try (exfalso; first | omega | (simp only [Bool.false_eq_true, reduceCtorEq] at hc1; done) | (refine absurd hc1 ?_; with_reducible assumption) | (refine absurd ?_ hc1; with_reducible assumption))
    all_goals (
     refine K_seq ?_
     refine K_region ?_
     refine W_assign rfl rfl ?_
     refine W_nil ?_
     refine N_then_k ?_
     refine K_ret ?_
     refine N_then_ret ?_
     refine N_done1 (.inr rfl) rfl rfl ?_
     exact ⟨_, rfl, rfl, hp.nil⟩)
  · try (exfalso; first | omega | (simp only [Bool.false_eq_true, reduceCtorEq] at hc1; done) | (refine absurd hc1 ?_; with_reducible assumption) | (refine absurd ?_ hc1; with_reducible assumption))
    all_goals (
     refine K_skip ?_
     refine N_then_k ?_
     refine K_seq ?_
     refine K_region ?_
     refine W_load_own (cs := bytesV D) Tryd.underlying23 rfl sz23 rfl hp (by first | exact List.mem_cons_self | exact .tail _ (.head _)) (by rw [List.drop_zero, List.take_of_length_le (by rw [bytesV_len]; omega)]) (by rw [bytesV_len]; exact hDl) rfl ?_
     refine W_acall hp rfl ((dhex_spec w D hDl)) rfl ?_
     clear hp; intro w hp
     refine W_assign rfl rfl ?_
     refine W_nil ?_
     refine N_then_k ?_
     refine K_seq ?_
     refine K_region ?_
     refine W_move rfl rfl ?_
     refine W_acall hp rfl (((parse_spec w (hexL D) (by omega)).eq hpt)) rfl ?_
     clear hp; intro w hp
     refine W_move rfl rfl ?_
     refine W_extract rfl rfl rfl ?_
     refine W_extract rfl rfl rfl ?_
     refine W_alloc hp zv23 rfl rfl ?_
     clear hp; intro b4 w hp
     refine W_storeF (A := []) (cs := bytesV D) hp rfl sz23 rfl rfl rfl (by rw [bytesV_len]; exact hDl) ?_ ?_ ?_ (by simp [bytesV]) ?_
     · simp
     · exact .inl (Nat.zero_le _)
     · exact bytesV_one
     clear hp; intro w hp
     refine W_assign rfl rfl ?_
     refine W_nil ?_
     refine N_then_k ?_
     refine K_seq ?_
     refine K_region ?_
     refine W_move rfl rfl ?_
     refine W_load_own (cs := bytesV D) Tryd.underlying23 rfl sz23 rfl hp (by first | exact List.mem_cons_self | exact .tail _ (.head _)) (by rw [List.drop_zero, List.take_of_length_le (by rw [bytesV_len]; omega)]) (by rw [bytesV_len]; exact hDl) rfl ?_
     refine W_acall hp rfl ((rhexs_spec w D hDl)) rfl ?_
     clear hp; intro w hp
     first
       | (refine W_seql_t rfl rfl ?_ rfl ?_; (focus (first | rfl | assumption)))
       | (refine W_seql_f rfl rfl ?_ rfl ?_; (focus (first | assumption | decide | exact List.cons_ne_nil _ _)))
       | (refine W_seql rfl rfl rfl ?_)
     refine W_move rfl rfl ?_
     first
       | refine W_guard_lit_t rfl ?_
       | refine W_guard_lit_f rfl ?_
       | refine W_guard_lit_u rfl ?_
       | refine W_guard_split_d rfl rfl rfl (fun hg2 => ?_) (fun hg2 => ?_)
       | refine W_guard_split_n rfl rfl rfl (fun hg2 => ?_) (fun hg2 => ?_)
       | refine W_guard_split_nb rfl rfl rfl (fun hg2 => ?_) (fun hg2 => ?_)
       | refine W_guard_split rfl rfl rfl (fun hg2 => ?_) (fun hg2 => ?_)
     all_goals try (exfalso; first | omega | (simp only [Bool.false_eq_true, reduceCtorEq] at hg2; done) | (refine absurd hg2 ?_; with_reducible assumption) | (refine absurd ?_ hg2; with_reducible assumption))
     all_goals (
      first
        | (refine W_guard_no rfl rfl rfl ?_)
        | (refine W_guard_un rfl rfl ?_)
        | (refine W_guard_yes rfl ?_
           refine W_move rfl rfl ?_)
      first
        | (refine W_pick_t rfl rfl rfl ?_)
        | (refine W_pick_f rfl rfl rfl ?_)
        | (refine W_pick_b rfl rfl rfl rfl ?_)
      refine W_move rfl rfl ?_
      first
        | refine W_guard_lit_t rfl ?_
        | refine W_guard_lit_f rfl ?_
        | refine W_guard_lit_u rfl ?_
        | refine W_guard_split_d rfl rfl rfl (fun hg3 => ?_) (fun hg3 => ?_)
        | refine W_guard_split_n rfl rfl rfl (fun hg3 => ?_) (fun hg3 => ?_)
        | refine W_guard_split_nb rfl rfl rfl (fun hg3 => ?_) (fun hg3 => ?_)
        | refine W_guard_split rfl rfl rfl (fun hg3 => ?_) (fun hg3 => ?_)
      all_goals try (exfalso; first | omega | (simp only [Bool.false_eq_true, reduceCtorEq] at hg3; done) | (refine absurd hg3 ?_; with_reducible assumption) | (refine absurd ?_ hg3; with_reducible assumption))
      all_goals (
       first
         | (iterate 3 refine W_guard_no rfl rfl rfl ?_)
         | (iterate 3 refine W_guard_un rfl rfl ?_)
         | (refine W_guard_yes rfl ?_
            refine W_load_own (cs := bytesV D) Tryd.underlying23 rfl sz23 rfl hp (by first | exact List.mem_cons_self | exact .tail _ (.head _)) (by rw [List.drop_zero, List.take_of_length_le (by rw [bytesV_len]; omega)]) (by rw [bytesV_len]; exact hDl) rfl ?_
            refine W_guard_yes rfl ?_
            refine W_load_own (cs := bytesV D) Tryd.underlying23 rfl sz23 rfl hp (by first | exact List.mem_cons_self | exact .tail _ (.head _)) (by rw [List.drop_zero, List.take_of_length_le (by rw [bytesV_len]; omega)]) (by rw [bytesV_len]; exact hDl) rfl ?_
            refine W_guard_yes rfl ?_
            refine W_aeql_t (by kernel_rfl) rfl rfl rfl (ok32 hDl) rfl ?_)
       first
         | (refine W_pick_t rfl rfl rfl ?_)
         | (refine W_pick_f rfl rfl rfl ?_)
         | (refine W_pick_b rfl rfl rfl rfl ?_)
       refine W_assign rfl rfl ?_
       refine W_nil ?_
       refine N_then_k ?_
       refine K_ret ?_
       refine N_done1 (.inr rfl) rfl rfl ?_
       exact ⟨_, rfl, rfl, hp.nil⟩)))

theorem DigestParses_walk (w0 : World) (hK : Roots w0) (s : List UInt8) : PureAt Tryd.prog 5 [.string ⟨s.toArray⟩] (.bool true) w0 := by
  have hpl := parseF_length s
  refine PureAt.intro go5 Tryd.func5 rfl rfl fun hp => ?_
  refine (fun (hk : ∀ w, Hp w0 [] [] w → K _ _ _ _ _ w) => hk w0 hp) fun w hp => ?_
  refine K_seq ?_
  refine K_region ?_
  refine W_assign rfl rfl ?_
  refine W_nil ?_
  refine N_then_k ?_
  refine K_seq ?_
  refine K_seq ?_
  refine K_region ?_
  refine W_acall hp rfl ((awake_spec w (hK.keep hp))) rfl ?_
  clear hp; intro w hp
  first
    | (refine W_not_t rfl rfl ?_)
    | (refine W_not_f rfl rfl ?_)
    | (refine W_not rfl rfl ?_)
  refine W_move rfl rfl ?_
  first
    | refine W_guard_lit_t rfl ?_
    | refine W_guard_lit_f rfl ?_
    | refine W_guard_lit_u rfl ?_
    | refine W_guard_split_d rfl rfl rfl (fun hg1 => ?_) (fun hg1 => ?_)
    | refine W_guard_split_n rfl rfl rfl (fun hg1 => ?_) (fun hg1 => ?_)
    | refine W_guard_split_nb rfl rfl rfl (fun hg1 => ?_) (fun hg1 => ?_)
    | refine W_guard_split rfl rfl rfl (fun hg1 => ?_) (fun hg1 => ?_)
  all_goals try (exfalso; first | omega | (simp only [Bool.false_eq_true, reduceCtorEq] at hg1; done) | (refine absurd hg1 ?_; with_reducible assumption) | (refine absurd ?_ hg1; with_reducible assumption))
  all_goals (
   first
     | (iterate 3 refine W_guard_no rfl rfl rfl ?_)
     | (iterate 3 refine W_guard_un rfl rfl ?_)
     | (refine W_guard_yes rfl ?_
        refine W_move rfl rfl ?_
        refine W_guard_yes rfl ?_
        refine W_len_s Tryd.underlying9 rfl rfl ?_
        refine W_guard_yes rfl ?_
        first
          | (refine W_gtr_t rfl rfl ?_ rfl ?_; (focus (omega)))
          | (refine W_gtr_f rfl rfl ?_ rfl ?_; (focus (omega)))
          | (refine W_gtr rfl rfl rfl ?_))
   first
     | (refine W_pick_t rfl rfl rfl ?_)
     | (refine W_pick_f rfl rfl rfl ?_)
     | (refine W_pick_b rfl rfl rfl rfl ?_)
   refine W_nil ?_
   refine N_then_k ?_
   first
     | refine K_cond_d rfl (fun hc2 => ?_) (fun hc2 => ?_)
     | refine K_cond_n rfl (fun hc2 => ?_) (fun hc2 => ?_)
     | refine K_cond_nb rfl (fun hc2 => ?_) (fun hc2 => ?_)
     | refine K_cond_t rfl (fun hc2 => ?_) (fun hc2 => ?_)
   · try (exfalso; first | omega | (simp only [Bool.false_eq_true, reduceCtorEq] at hc2; done) | (refine absurd hc2 ?_; with_reducible assumption) | (refine absurd ?_ hc2; with_reducible assumption))
     all_goals (
      refine K_seq ?_
      refine K_region ?_
      refine W_acall hp rfl ((awake_spec w (hK.keep hp))) rfl ?_
      clear hp; intro w hp
      refine W_assign rfl rfl ?_
      refine W_nil ?_
      refine N_then_k ?_
      refine K_ret ?_
      refine N_then_ret ?_
      refine N_done1 (.inr rfl) rfl rfl ?_
      exact ⟨_, rfl, rfl, hp.nil⟩)
   · try (exfalso; first | omega | (simp only [Bool.false_eq_true, reduceCtorEq] at hc2; done) | (refine absurd hc2 ?_; with_reducible assumption) | (refine absurd ?_ hc2; with_reducible assumption))
     all_goals (
      refine K_skip ?_
      refine N_then_k ?_
      refine K_seq ?_
      refine K_region ?_
      refine W_move rfl rfl ?_
      refine W_acall hp rfl ((parse_spec w s (by omega))) rfl ?_
      clear hp; intro w hp
      refine W_move rfl rfl ?_
      refine W_extract rfl rfl rfl ?_
      refine W_extract rfl rfl rfl ?_
      refine W_alloc hp zv23 rfl rfl ?_
      clear hp; intro b3 w hp
      refine W_storeF (A := []) (cs := bytesV (parseF s)) hp rfl sz23 rfl rfl rfl (by rw [bytesV_len]; exact hpl) ?_ ?_ ?_ (by simp [bytesV]) ?_
      · simp
      · exact .inl (Nat.zero_le _)
      · exact bytesV_one
      clear hp; intro w hp
      refine W_assign rfl rfl ?_
      refine W_nil ?_
      refine N_then_k ?_
      refine K_seq ?_
      refine K_seq ?_
      refine K_region ?_
      refine W_move rfl rfl ?_
      refine W_move rfl rfl ?_
      refine W_pcall hp rfl (isright_spec s (by omega)) rfl ?_
      clear hp; intro w hp
      first
        | (refine W_bneq_f Tryd.underlying4 rfl rfl rfl rfl ?_)
        | (refine W_bneq_t Tryd.underlying4 rfl rfl rfl rfl ?_)
        | (refine W_bneq Tryd.underlying4 rfl rfl rfl ?_)
      refine W_nil ?_
      refine N_then_k ?_
      first
        | refine K_cond_d rfl (fun hc3 => ?_) (fun hc3 => ?_)
        | refine K_cond_n rfl (fun hc3 => ?_) (fun hc3 => ?_)
        | refine K_cond_nb rfl (fun hc3 => ?_) (fun hc3 => ?_)
        | refine K_cond_t rfl (fun hc3 => ?_) (fun hc3 => ?_)
      · try (exfalso; first | omega | (simp only [Bool.false_eq_true, reduceCtorEq] at hc3; done) | (refine absurd hc3 ?_; with_reducible assumption) | (refine absurd ?_ hc3; with_reducible assumption))
        all_goals (
         refine K_seq ?_
         refine K_region ?_
         refine W_assign rfl rfl ?_
         refine W_nil ?_
         refine N_then_k ?_
         refine K_ret ?_
         refine N_then_ret ?_
         refine N_done1 (.inr rfl) rfl rfl ?_
         exact ⟨_, rfl, rfl, hp.nil⟩)
      · try (exfalso; first | omega | (simp only [Bool.false_eq_true, reduceCtorEq] at hc3; done) | (refine absurd hc3 ?_; with_reducible assumption) | (refine absurd ?_ hc3; with_reducible assumption))
        all_goals (
         refine K_skip ?_
         refine N_then_k ?_
         refine K_seq ?_
         refine K_region ?_
         cases hR : rightB s
         all_goals (
          refine W_move rfl rfl ?_
          refine W_move rfl rfl ?_
          first
            | refine W_guard_lit_t rfl ?_
            | refine W_guard_lit_f rfl ?_
            | refine W_guard_lit_u rfl ?_
            | refine W_guard_split_d rfl rfl rfl (fun hg4 => ?_) (fun hg4 => ?_)
            | refine W_guard_split_n rfl rfl rfl (fun hg4 => ?_) (fun hg4 => ?_)
            | refine W_guard_split_nb rfl rfl rfl (fun hg4 => ?_) (fun hg4 => ?_)
            | refine W_guard_split rfl rfl rfl (fun hg4 => ?_) (fun hg4 => ?_)
          all_goals try (exfalso; first | omega | (simp only [Bool.false_eq_true, reduceCtorEq] at hg4; done) | (refine absurd hg4 ?_; with_reducible assumption) | (refine absurd ?_ hg4; with_reducible assumption))
          all_goals (
           first
             | (iterate 4 refine W_guard_no rfl rfl rfl ?_)
             | (iterate 4 refine W_guard_un rfl rfl ?_)
             | (refine W_guard_yes rfl ?_
                refine W_load_own (cs := bytesV (parseF s)) Tryd.underlying23 rfl sz23 rfl hp (by first | exact List.mem_cons_self | exact .tail _ (.head _)) (by rw [List.drop_zero, List.take_of_length_le (by rw [bytesV_len]; omega)]) (by rw [bytesV_len]; exact hpl) rfl ?_
                refine W_guard_yes rfl ?_
                refine W_acall hp rfl ((dhex_spec w (parseF s) hpl)) rfl ?_
                clear hp; intro w hp
                refine W_guard_yes rfl ?_
                refine W_move rfl rfl ?_
                refine W_guard_yes rfl ?_
                refine W_seql_t rfl rfl (hexL_parse (by assumption)) rfl ?_)
           first
             | (refine W_pick_t rfl rfl rfl ?_)
             | (refine W_pick_f rfl rfl rfl ?_)
             | (refine W_pick_b rfl rfl rfl rfl ?_)
           refine W_move rfl rfl ?_
           first
             | refine W_guard_lit_t rfl ?_
             | refine W_guard_lit_f rfl ?_
             | refine W_guard_lit_u rfl ?_
             | refine W_guard_split_d rfl rfl rfl (fun hg5 => ?_) (fun hg5 => ?_)
             | refine W_guard_split_n rfl rfl rfl (fun hg5 => ?_) (fun hg5 => ?_)
             | refine W_guard_split_nb rfl rfl rfl (fun hg5 => ?_) (fun hg5 => ?_)
             | refine W_guard_split rfl rfl rfl (fun hg5 => ?_) (fun hg5 => ?_)
           all_goals try (exfalso; first | omega | (simp only [Bool.false_eq_true, reduceCtorEq] at hg5; done) | (refine absurd hg5 ?_; with_reducible assumption) | (refine absurd ?_ hg5; with_reducible assumption))
           all_goals (
            first
              | (iterate 3 refine W_guard_no rfl rfl rfl ?_)
              | (iterate 3 refine W_guard_un rfl rfl ?_)
              | (refine W_guard_yes rfl ?_
                 refine W_move rfl rfl ?_
                 refine W_guard_yes rfl ?_
                 first
                   | (refine W_not_t rfl rfl ?_)
                   | (refine W_not_f rfl rfl ?_)
                   | (refine W_not rfl rfl ?_)
                 refine W_guard_yes rfl ?_
                 refine W_move rfl rfl ?_)
            first
              | refine W_guard_lit_t rfl ?_
              | refine W_guard_lit_f rfl ?_
              | refine W_guard_lit_u rfl ?_
              | refine W_guard_split_d rfl rfl rfl (fun hg6 => ?_) (fun hg6 => ?_)
              | refine W_guard_split_n rfl rfl rfl (fun hg6 => ?_) (fun hg6 => ?_)
              | refine W_guard_split_nb rfl rfl rfl (fun hg6 => ?_) (fun hg6 => ?_)
              | refine W_guard_split rfl rfl rfl (fun hg6 => ?_) (fun hg6 => ?_)
            all_goals try (exfalso; first | omega | (simp only [Bool.false_eq_true, reduceCtorEq] at hg6; done) | (refine absurd hg6 ?_; with_reducible assumption) | (refine absurd ?_ hg6; with_reducible assumption))
            all_goals (
             first
               | (iterate 3 refine W_guard_no rfl rfl rfl ?_)
               | (iterate 3 refine W_guard_un rfl rfl ?_)
               | (refine W_guard_yes rfl ?_
                  refine W_load_own (cs := bytesV (parseF s)) Tryd.underlying23 rfl sz23 rfl hp (by first | exact List.mem_cons_self | exact .tail _ (.head _)) (by rw [List.drop_zero, List.take_of_length_le (by rw [bytesV_len]; omega)]) (by rw [bytesV_len]; exact hpl) rfl ?_
                  refine W_guard_yes rfl ?_
                  refine W_build0  ([(.int .u8 0), (.int .u8 0), (.int .u8 0), (.int .u8 0), (.int .u8 0), (.int .u8 0), (.int .u8 0), (.int .u8 0), (.int .u8 0), (.int .u8 0), (.int .u8 0), (.int .u8 0), (.int .u8 0), (.int .u8 0), (.int .u8 0), (.int .u8 0), (.int .u8 0), (.int .u8 0), (.int .u8 0), (.int .u8 0), (.int .u8 0), (.int .u8 0), (.int .u8 0), (.int .u8 0), (.int .u8 0), (.int .u8 0), (.int .u8 0), (.int .u8 0), (.int .u8 0), (.int .u8 0), (.int .u8 0), (.int .u8 0)]) (by kernel_rfl) rfl ?_
                  refine W_guard_yes rfl ?_
                  refine W_aeql_t (by kernel_rfl) rfl rfl (by rw [parse_wrong (by assumption)]; rfl) (ok32 hpl) rfl ?_)
             first
               | (refine W_guard_no rfl rfl rfl ?_)
               | (refine W_guard_un rfl rfl ?_)
               | (refine W_guard_yes rfl ?_
                  first
                    | (refine W_pick_t rfl rfl rfl ?_)
                    | (refine W_pick_f rfl rfl rfl ?_)
                    | (refine W_pick_b rfl rfl rfl rfl ?_))
             first
               | (refine W_pick_t rfl rfl rfl ?_)
               | (refine W_pick_f rfl rfl rfl ?_)
               | (refine W_pick_b rfl rfl rfl rfl ?_)
             refine W_assign rfl rfl ?_
             refine W_nil ?_
             refine N_then_k ?_
             refine K_ret ?_
             refine N_done1 (.inr rfl) rfl rfl ?_
             exact ⟨_, rfl, rfl, hp.nil⟩)))))))

theorem snoc_rep (k : Nat) (c : UInt8) : List.replicate k c ++ [c] = List.replicate (k + 1) c := by rw [List.replicate_succ']

theorem DigestLengths_walk (w0 : World) (hK : Roots w0) (c n : UInt8) : PureAt Tryd.prog 6 [.int .u8 (c.toNat : Int), .int .u8 (n.toNat : Int)] (.bool true) w0 := by
  have hu := n.toNat_lt
  refine PureAt.intro go6 Tryd.func6 rfl rfl fun hp => ?_
  refine (fun (hk : ∀ w, Hp w0 [] [] w → K _ _ _ _ _ w) => hk w0 hp) fun w hp => ?_
  refine K_seq ?_
  refine K_region ?_
  refine W_assign rfl rfl ?_
  refine W_nil ?_
  refine N_then_k ?_
  refine K_seq ?_
  refine K_seq ?_
  refine K_region ?_
  refine W_acall hp rfl ((awake_spec w (hK.keep hp))) rfl ?_
  clear hp; intro w hp
  first
    | (refine W_not_t rfl rfl ?_)
    | (refine W_not_f rfl rfl ?_)
    | (refine W_not rfl rfl ?_)
  refine W_nil ?_
  refine N_then_k ?_
  first
    | refine K_cond_d rfl (fun hc1 => ?_) (fun hc1 => ?_)
    | refine K_cond_n rfl (fun hc1 => ?_) (fun hc1 => ?_)
    | refine K_cond_nb rfl (fun hc1 => ?_) (fun hc1 => ?_)
    | refine K_cond_t rfl (fun hc1 => ?_) (fun hc1 => ?_)
  · try (exfalso; first | omega | (simp only [Bool.false_eq_true, reduceCtorEq] at hc1; done) | (refine absurd hc1 ?_; with_reducible assumption) | (refine absurd ?_ hc1; with_reducible assumption))
    all_goals (
     refine K_seq ?_
     refine K_region ?_
     refine W_assign rfl rfl ?_
     refine W_nil ?_
     refine N_then_k ?_
     refine K_ret ?_
     refine N_then_ret ?_
     refine N_done1 (.inr rfl) rfl rfl ?_
     exact ⟨_, rfl, rfl, hp.nil⟩)
  · try (exfalso; first | omega | (simp only [Bool.false_eq_true, reduceCtorEq] at hc1; done) | (refine absurd hc1 ?_; with_reducible assumption) | (refine absurd ?_ hc1; with_reducible assumption))
    all_goals (
     refine K_skip ?_
     refine N_then_k ?_
     refine K_seq ?_
     refine K_region ?_
     refine W_assign rfl rfl ?_
     refine W_nil ?_
     refine N_then_k ?_
     refine K_seq ?_
     refine K_seq ?_
     refine K_region ?_
     refine W_assign rfl rfl ?_
     refine W_nil ?_
     refine N_then_k ?_
     refine K_block ?_
     refine K_loop (σ := Nat × Value × Heap) [5, 6, 9, 10, 11, 12, 13, 14, 15, 16, 17, 18, 19]
         (fun s => [(6, .int .i64 s.1), (5, s.2.1)])
         (fun q w => OSb 5 q.2.1 (List.replicate q.1 c) q.2.2 ∧ Hp w0 [] q.2.2 w ∧ q.1 ≤ n.toNat % 140)
         (fun q => n.toNat % 140 - q.1) ((0, .slice none 0 0, [])) ?_ ?_ ?_
     · repeat' (first | exact sub_lst_nil (sub_nil _) | refine sub_lst rfl ?_ | (refine sub_lst_eq rfl ?_ ?_; · first | rfl | (simp; done) | (congr 1; omega)))
     · exact ⟨OSb.nil, hp, Nat.zero_le _⟩
     · intro ⟨k, v, Hs⟩ w hJ
       clear hp
       obtain ⟨hos, hp, hle⟩ := hJ
       simp only at hos hp hle
       change K _ _ _ _ (.lst ([(6, .int .i64 k), (5, v)]) _) _
       obtain ⟨Av, cv, rfl⟩ := hos.form
       have hrl : (List.replicate k c).length = k := by simp
       rcases Nat.lt_or_ge k (n.toNat % 140) with hlt | hge
       all_goals (
        refine K_seq ?_
        refine K_seq ?_
        refine K_region ?_
        refine W_move rfl rfl ?_
        refine W_move rfl rfl ?_
        first
          | (refine W_conv_i Tryd.underlying5 Tryd.underlying3 rfl (wr_i64 ?_) rfl ?_; (focus (first | omega | (have := u8_lt ‹_›; omega))))
          | (refine W_conv_i Tryd.underlying5 Tryd.underlying3 rfl rfl rfl ?_)
        refine W_rem (r := ((n.toNat % 140 : Nat) : Int)) rfl rfl (by decide) rfl rfl ?_
        first
          | (refine W_lss_t rfl rfl ?_ rfl ?_; (focus (omega)))
          | (refine W_lss_f rfl rfl ?_ rfl ?_; (focus (omega)))
          | (refine W_lss rfl rfl rfl ?_)
        refine W_nil ?_
        refine N_then_k ?_
        first
          | refine K_cond_d rfl (fun hc2 => ?_) (fun hc2 => ?_)
          | refine K_cond_n rfl (fun hc2 => ?_) (fun hc2 => ?_)
          | refine K_cond_nb rfl (fun hc2 => ?_) (fun hc2 => ?_)
          | refine K_cond_t rfl (fun hc2 => ?_) (fun hc2 => ?_)
        · try (exfalso; first | omega | (simp only [Bool.false_eq_true, reduceCtorEq] at hc2; done) | (refine absurd hc2 ?_; with_reducible assumption) | (refine absurd ?_ hc2; with_reducible assumption))
          all_goals (
           refine K_skip ?_
           refine N_then_k ?_
           refine K_seq ?_
           refine K_block ?_
           refine K_region ?_
           refine W_move rfl rfl ?_
           refine W_move rfl rfl ?_
           refine W_bslice1 hp Tryd.underlying33 sz5 zv5 rfl  rfl  (fun v0 => [v0]) rfl rfl rfl ?_
           clear hp; intro b18 w hp
           try simp only [List.append_nil] at hp
           rw [← List.append_nil Hs] at hp
           refine W_append_sl (A := [_]) (B := []) _ rfl hp rfl Tryd.underlying33 sz5 pb5 zv5 rfl rfl rfl rfl hos (Rd.own hp (by first | exact List.mem_cons_self | exact .tail _ (.head _) | exact .tail _ (.tail _ (.head _)) | exact .tail _ (.tail _ (.tail _ (.head _))) | exact .tail _ (.tail _ (.tail _ (.tail _ (.head _)))) | exact .tail _ (.tail _ (.tail _ (.tail _ (.tail _ (.head _))))) | exact List.mem_append_right _ (.head _) | exact List.mem_append_right _ (.tail _ (.head _)) | exact List.mem_append_right _ (.tail _ (.tail _ (.head _))) | exact .tail _ (List.mem_append_right _ (.head _)) | exact .tail _ (List.mem_append_right _ (.tail _ (.head _))) | assumption | (repeat (first | exact List.mem_cons_self | apply List.mem_append_right | apply List.mem_cons_of_mem))) (List.prefix_refl _)) ?_ ?_ ?_ ?_ rfl ?_
           · rfl
           · first | (simp [Value.oneCell']; done) | (simp [Value.oneCell', strV]; done)
           · (simp only [maxLen]; omega)
           · omega
           clear hp; intro va19 Hs w hos hp
           replace hos := OSb.snoc (c := c) hos
           obtain ⟨Aa19, ca19, rfl⟩ := hos.form
           refine W_assign rfl rfl ?_
           refine W_nil ?_
           refine N_block_normal ?_
           refine N_then_k ?_
           refine K_region ?_
           refine W_move rfl rfl ?_
           first
             | (refine W_add rfl rfl (wr_i64 ?_) rfl ?_; (focus (omega)))
             | (refine W_add rfl rfl rfl rfl ?_)
           refine W_assign rfl rfl ?_
           refine W_nil ?_
           rw [snoc_rep] at hos
           refine N_again (k + 1, .slice Aa19 (List.replicate (k + 1) c).length ca19, Hs) (sub_end ?_ ?_) ⟨hos, by simpa using hp.drop (List.sublist_cons_self _ _), hlt⟩ ?_
           · repeat' (first | exact sub_lst_nil (sub_nil _) | refine sub_lst rfl ?_ | (refine sub_lst_eq rfl ?_ ?_; · first | rfl | (simp; done) | (congr 1; omega)))
           · repeat' (first | exact sub_refl _ | exact sub_strip _ _ | refine sub_s_cons rfl ?_ | refine sub_s_lst rfl ?_ | refine sub_s_strip rfl ?_)
           · show _ < _; simp only; omega)
        · try (exfalso; first | omega | (simp only [Bool.false_eq_true, reduceCtorEq] at hc2; done) | (refine absurd hc2 ?_; with_reducible assumption) | (refine absurd ?_ hc2; with_reducible assumption))
          all_goals (
           refine K_exit ?_
           refine N_then_exit ?_
           refine N_then_exit ?_
           refine N_block_exit ?_
           refine N_then_k ?_
           refine K_seq ?_
           refine K_heldp (.first 0 (.first 1 (.first 3 (.first 4 (.only 2 (.only 5 (.only 6 (.first 7 (.first 8 .done))))))))) hm hp (by kernel_rfl) (by kernel_rfl) (.first rfl (.first rfl (.first rfl (.first rfl (.only rfl (.only rfl (.only rfl (.first rfl (.first rfl .done))))))))) ?_
           clear hp; intro w hp
           refine Wh_val (by first | exact hp | (refine hp.drop ?_; repeat (first | exact List.Sublist.refl _ | exact List.nil_sublist _ | refine List.Sublist.cons_cons _ ?_ | apply List.sublist_append_of_sublist_right | apply List.Sublist.cons))) (fun w hp => R_move rfl) rfl ?_
           refine Wh_val (by first | exact hp | (refine hp.drop ?_; repeat (first | exact List.Sublist.refl _ | exact List.nil_sublist _ | refine List.Sublist.cons_cons _ ?_ | apply List.sublist_append_of_sublist_right | apply List.Sublist.cons))) (fun w hp => R_conv_bs (a := (List.replicate k c)) Tryd.underlying33 Tryd.underlying5 Tryd.underlying9 rfl (hos.rd (A := []) (B := []) (by simpa using hp)) rfl) rfl ?_
           refine Wh_val (by first | exact hp | (refine hp.drop ?_; repeat (first | exact List.Sublist.refl _ | exact List.nil_sublist _ | refine List.Sublist.cons_cons _ ?_ | apply List.sublist_append_of_sublist_right | apply List.Sublist.cons))) (fun w hp => R_move rfl) rfl ?_
           refine Wh_val (by first | exact hp | (refine hp.drop ?_; repeat (first | exact List.Sublist.refl _ | exact List.nil_sublist _ | refine List.Sublist.cons_cons _ ?_ | apply List.sublist_append_of_sublist_right | apply List.Sublist.cons))) (fun w hp => R_conv_bs (a := (List.replicate k c)) Tryd.underlying33 Tryd.underlying5 Tryd.underlying9 rfl (hos.rd (A := []) (B := []) (by simpa using hp)) rfl) rfl ?_
           refine Wh_step ?_
           refine W_acall hp rfl ((sum_spec w (hK.keep hp) (List.replicate k c) (by omega))) rfl ?_
           clear hp; intro w hp
           refine W_nil ?_
           refine Wh_next (by first | exact hp | (refine hp.drop ?_; repeat (first | exact List.Sublist.refl _ | exact List.nil_sublist _ | refine List.Sublist.cons_cons _ ?_ | apply List.sublist_append_of_sublist_right | apply List.Sublist.cons))) ?_
           refine Wh_step ?_
           refine W_bcall hp rfl ((table_spec w)) rfl ?_
           clear hp; intro v25 G25 w r25 hp
           obtain ⟨At, ct, rfl⟩ := r25.form
           refine W_nil ?_
           refine Wh_next (by first | exact hp | (refine hp.drop ?_; repeat (first | exact List.Sublist.refl _ | exact List.nil_sublist _ | refine List.Sublist.cons_cons _ ?_ | apply List.sublist_append_of_sublist_right | apply List.Sublist.cons))) ?_
           refine Wh_step ?_
           refine W_acall hp rfl ((rsum_spec w (List.replicate k c) (by omega) At ct (OS.rdm (show OS _ _ _ _ _ _ from r25) (w := w) (fun p hq => hp.own p (by simp [hq]))))) rfl ?_
           clear hp; intro w hp
           refine W_nil ?_
           refine Wh_next (by first | exact hp | (refine hp.drop ?_; repeat (first | exact List.Sublist.refl _ | exact List.nil_sublist _ | refine List.Sublist.cons_cons _ ?_ | apply List.sublist_append_of_sublist_right | apply List.Sublist.cons))) ?_
           refine Wh_val (by first | exact hp | (refine hp.drop ?_; repeat (first | exact List.Sublist.refl _ | exact List.nil_sublist _ | refine List.Sublist.cons_cons _ ?_ | apply List.sublist_append_of_sublist_right | apply List.Sublist.cons))) (fun w hp => R_aeql_t (by kernel_rfl) rfl rfl rfl (ok32 (sumF_length _))) rfl ?_
           refine Wh_val (by first | exact hp | (refine hp.drop ?_; repeat (first | exact List.Sublist.refl _ | exact List.nil_sublist _ | refine List.Sublist.cons_cons _ ?_ | apply List.sublist_append_of_sublist_right | apply List.Sublist.cons))) (fun w hp => R_assign rfl) rfl ?_
           refine Wh_nil ?_
           refine N_then_k ?_
           refine K_ret ?_
           refine N_done1 (.inr rfl) rfl rfl ?_
           exact ⟨_, rfl, rfl, hp.nil⟩)))

end Go.Proofs.YtpkcoeocdimjoaaDoor
