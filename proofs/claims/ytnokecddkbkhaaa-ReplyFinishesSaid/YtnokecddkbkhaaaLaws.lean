/-
  The laws of package reply, walked.
-/
import Derived.Test.YtnokecddkbkhaaaAwk
namespace Go.Proofs.Ytnokecddkbkhaaa
open Go.Sx Go.RowKit
set_option linter.unusedVariables false
set_option linter.unusedSimpArgs false
set_option maxRecDepth 100000

set_option maxHeartbeats 1600000 in
theorem MR_walk (w0 : World) (s : Int) (Mp : List (List UInt8)) (Ap : Option Addr) (cp : Nat) (hrp : Rd w0 (.slice Ap Mp.length cp) Mp.length (Mp.map strV)) (hnp : Mp.length ≤ 9223372036854775807) (d : Bool) (ty : List UInt8) (B : List UInt8) (Ab : Option Addr) (cb : Nat) (hrb : Rd w0 (.slice Ab B.length cb) B.length (bytesV B)) (t : List UInt8) (M : List (List UInt8)) (Al : Option Addr) (cl : Nat) (hrl : Rd w0 (.slice Al M.length cl) M.length (M.map strV)) (hcl : M.length ≤ cl) (hnm : M.length ≤ 9223372036854775807) : PureAt Try.prog 3 [.int .i64 s, .agg #[.slice Ap Mp.length cp, .bool d, .string ⟨ty.toArray⟩, .slice Ab B.length cb], .string ⟨t.toArray⟩, .slice Al M.length cl] (.bool true) w0 := by
  cases hfp : fewS 100 30 Mp
  all_goals cases hfm : fewS 300 20 M
  all_goals first | (obtain ⟨hM1, hM2⟩ := fewS_spec hfm; have hj := joinB_few hM1 hM2) | skip
  all_goals (
   refine PureAt.intro go3 Try.func3 rfl rfl fun hp => ?_
   refine (fun (hk : ∀ w, Hp w0 [] [] w → K _ _ _ _ _ w) => hk w0 hp) fun w hp => ?_
   refine K_seq ?_
   refine K_region ?_
   refine W_box hp rfl rfl rfl ?_
   clear hp; intro b5 w hp
   refine W_assign rfl rfl ?_
   refine W_nil ?_
   refine N_then_k ?_
   refine K_seq ?_
   refine K_seq ?_
   refine K_region ?_
   refine W_acall hp rfl ((awake_spec w)) rfl ?_
   clear hp; intro w hp
   first
     | (refine W_not_t rfl rfl ?_)
     | (refine W_not_f rfl rfl ?_)
     | (refine W_not rfl rfl ?_)
   refine W_move rfl rfl ?_
   first
     | refine W_guard_lit_t rfl ?_
     | refine W_guard_lit_f rfl ?_
     | refine W_guard_lit_u rfl ?_
     | refine W_guard_split_d rfl rfl rfl (fun hg1 => ?_) (fun hg1 => ?_)
     | refine W_guard_split_n rfl rfl rfl (fun hg1 => ?_) (fun hg1 => ?_)
     | refine W_guard_split_nb rfl rfl rfl (fun hg1 => ?_) (fun hg1 => ?_)
     | refine W_guard_split rfl rfl rfl (fun hg1 => ?_) (fun hg1 => ?_)
   all_goals try (exfalso; first | omega | (simp only [Bool.false_eq_true, reduceCtorEq] at hg1; done) | (refine absurd hg1 ?_; with_reducible assumption) | (refine absurd ?_ hg1; with_reducible assumption))
   all_goals (
    first
      | (iterate 4 refine W_guard_no rfl rfl rfl ?_)
      | (iterate 4 refine W_guard_un rfl rfl ?_)
      | (refine W_guard_yes rfl ?_
         refine W_fieldAddr Try.underlying25 rfl sz22 rfl rfl ?_
         refine W_guard_yes rfl ?_
         refine W_load_s Try.underlying22 rfl rfl (by first | exact hp.cellF (by first | exact List.mem_cons_self | exact .tail _ (.head _) | exact .tail _ (.tail _ (.head _)) | exact .tail _ (.tail _ (.tail _ (.head _))) | exact .tail _ (.tail _ (.tail _ (.tail _ (.head _)))) | exact .tail _ (.tail _ (.tail _ (.tail _ (.tail _ (.head _))))) | exact List.mem_append_right _ (.head _) | exact List.mem_append_right _ (.tail _ (.head _)) | exact List.mem_append_right _ (.tail _ (.tail _ (.head _))) | exact .tail _ (List.mem_append_right _ (.head _)) | exact .tail _ (List.mem_append_right _ (.tail _ (.head _))) | assumption | (repeat (first | exact List.mem_cons_self | apply List.mem_append_right | apply List.mem_cons_of_mem))) rfl | exact hp.cellM (by first | exact List.mem_cons_self | exact .tail _ (.head _) | exact .tail _ (.tail _ (.head _)) | exact .tail _ (.tail _ (.tail _ (.head _))) | exact .tail _ (.tail _ (.tail _ (.tail _ (.head _)))) | exact .tail _ (.tail _ (.tail _ (.tail _ (.tail _ (.head _))))) | exact List.mem_append_right _ (.head _) | exact List.mem_append_right _ (.tail _ (.head _)) | exact List.mem_append_right _ (.tail _ (.tail _ (.head _))) | exact .tail _ (List.mem_append_right _ (.head _)) | exact .tail _ (List.mem_append_right _ (.tail _ (.head _))) | assumption | (repeat (first | exact List.mem_cons_self | apply List.mem_append_right | apply List.mem_cons_of_mem))) rfl | exact hp.cell_old0 ‹_› | (refine hp.cell_old0 ?_; assumption) | (apply hp.cellF (by assumption); rfl)) rfl ?_
         refine W_guard_yes rfl ?_
         refine W_acall hp rfl (((few16_spec w Mp Ap cp (hrp.keep hp) hnp).eq (congrArg Value.bool hfp))) rfl ?_
         clear hp; intro w hp
         refine W_guard_yes rfl ?_
         first
           | (refine W_not_t rfl rfl ?_)
           | (refine W_not_f rfl rfl ?_)
           | (refine W_not rfl rfl ?_))
    first
      | (refine W_pick_t rfl rfl rfl ?_)
      | (refine W_pick_f rfl rfl rfl ?_)
      | (refine W_pick_b rfl rfl rfl rfl ?_)
    refine W_move rfl rfl ?_
    first
      | refine W_guard_lit_t rfl ?_
      | refine W_guard_lit_f rfl ?_
      | refine W_guard_lit_u rfl ?_
      | refine W_guard_split_d rfl rfl rfl (fun hg2 => ?_) (fun hg2 => ?_)
      | refine W_guard_split_n rfl rfl rfl (fun hg2 => ?_) (fun hg2 => ?_)
      | refine W_guard_split_nb rfl rfl rfl (fun hg2 => ?_) (fun hg2 => ?_)
      | refine W_guard_split rfl rfl rfl (fun hg2 => ?_) (fun hg2 => ?_)
    all_goals try (exfalso; first | omega | (simp only [Bool.false_eq_true, reduceCtorEq] at hg2; done) | (refine absurd hg2 ?_; with_reducible assumption) | (refine absurd ?_ hg2; with_reducible assumption))
    all_goals (
     first
       | (iterate 4 refine W_guard_no rfl rfl rfl ?_)
       | (iterate 4 refine W_guard_un rfl rfl ?_)
       | (refine W_guard_yes rfl ?_
          refine W_fieldAddr Try.underlying25 rfl sz9 rfl rfl ?_
          refine W_guard_yes rfl ?_
          refine W_load_s Try.underlying9 rfl rfl (by first | exact hp.cellF (by first | exact List.mem_cons_self | exact .tail _ (.head _) | exact .tail _ (.tail _ (.head _)) | exact .tail _ (.tail _ (.tail _ (.head _))) | exact .tail _ (.tail _ (.tail _ (.tail _ (.head _)))) | exact .tail _ (.tail _ (.tail _ (.tail _ (.tail _ (.head _))))) | exact List.mem_append_right _ (.head _) | exact List.mem_append_right _ (.tail _ (.head _)) | exact List.mem_append_right _ (.tail _ (.tail _ (.head _))) | exact .tail _ (List.mem_append_right _ (.head _)) | exact .tail _ (List.mem_append_right _ (.tail _ (.head _))) | assumption | (repeat (first | exact List.mem_cons_self | apply List.mem_append_right | apply List.mem_cons_of_mem))) rfl | exact hp.cellM (by first | exact List.mem_cons_self | exact .tail _ (.head _) | exact .tail _ (.tail _ (.head _)) | exact .tail _ (.tail _ (.tail _ (.head _))) | exact .tail _ (.tail _ (.tail _ (.tail _ (.head _)))) | exact .tail _ (.tail _ (.tail _ (.tail _ (.tail _ (.head _))))) | exact List.mem_append_right _ (.head _) | exact List.mem_append_right _ (.tail _ (.head _)) | exact List.mem_append_right _ (.tail _ (.tail _ (.head _))) | exact .tail _ (List.mem_append_right _ (.head _)) | exact .tail _ (List.mem_append_right _ (.tail _ (.head _))) | assumption | (repeat (first | exact List.mem_cons_self | apply List.mem_append_right | apply List.mem_cons_of_mem))) rfl | exact hp.cell_old0 ‹_› | (refine hp.cell_old0 ?_; assumption) | (apply hp.cellF (by assumption); rfl)) rfl ?_
          refine W_guard_yes rfl ?_
          refine W_len_s Try.underlying9 rfl rfl ?_
          refine W_guard_yes rfl ?_
          first
            | (refine W_gtr_t rfl rfl ?_ rfl ?_; (focus (omega)))
            | (refine W_gtr_f rfl rfl ?_ rfl ?_; (focus (omega)))
            | (refine W_gtr rfl rfl rfl ?_))
     first
       | (refine W_pick_t rfl rfl rfl ?_)
       | (refine W_pick_f rfl rfl rfl ?_)
       | (refine W_pick_b rfl rfl rfl rfl ?_)
     refine W_move rfl rfl ?_
     first
       | refine W_guard_lit_t rfl ?_
       | refine W_guard_lit_f rfl ?_
       | refine W_guard_lit_u rfl ?_
       | refine W_guard_split_d rfl rfl rfl (fun hg3 => ?_) (fun hg3 => ?_)
       | refine W_guard_split_n rfl rfl rfl (fun hg3 => ?_) (fun hg3 => ?_)
       | refine W_guard_split_nb rfl rfl rfl (fun hg3 => ?_) (fun hg3 => ?_)
       | refine W_guard_split rfl rfl rfl (fun hg3 => ?_) (fun hg3 => ?_)
     all_goals try (exfalso; first | omega | (simp only [Bool.false_eq_true, reduceCtorEq] at hg3; done) | (refine absurd hg3 ?_; with_reducible assumption) | (refine absurd ?_ hg3; with_reducible assumption))
     all_goals (
      first
        | (iterate 4 refine W_guard_no rfl rfl rfl ?_)
        | (iterate 4 refine W_guard_un rfl rfl ?_)
        | (refine W_guard_yes rfl ?_
           refine W_fieldAddr Try.underlying25 rfl sz23 rfl rfl ?_
           refine W_guard_yes rfl ?_
           refine W_load_s Try.underlying23 rfl rfl (by first | exact hp.cellF (by first | exact List.mem_cons_self | exact .tail _ (.head _) | exact .tail _ (.tail _ (.head _)) | exact .tail _ (.tail _ (.tail _ (.head _))) | exact .tail _ (.tail _ (.tail _ (.tail _ (.head _)))) | exact .tail _ (.tail _ (.tail _ (.tail _ (.tail _ (.head _))))) | exact List.mem_append_right _ (.head _) | exact List.mem_append_right _ (.tail _ (.head _)) | exact List.mem_append_right _ (.tail _ (.tail _ (.head _))) | exact .tail _ (List.mem_append_right _ (.head _)) | exact .tail _ (List.mem_append_right _ (.tail _ (.head _))) | assumption | (repeat (first | exact List.mem_cons_self | apply List.mem_append_right | apply List.mem_cons_of_mem))) rfl | exact hp.cellM (by first | exact List.mem_cons_self | exact .tail _ (.head _) | exact .tail _ (.tail _ (.head _)) | exact .tail _ (.tail _ (.tail _ (.head _))) | exact .tail _ (.tail _ (.tail _ (.tail _ (.head _)))) | exact .tail _ (.tail _ (.tail _ (.tail _ (.tail _ (.head _))))) | exact List.mem_append_right _ (.head _) | exact List.mem_append_right _ (.tail _ (.head _)) | exact List.mem_append_right _ (.tail _ (.tail _ (.head _))) | exact .tail _ (List.mem_append_right _ (.head _)) | exact .tail _ (List.mem_append_right _ (.tail _ (.head _))) | assumption | (repeat (first | exact List.mem_cons_self | apply List.mem_append_right | apply List.mem_cons_of_mem))) rfl | exact hp.cell_old0 ‹_› | (refine hp.cell_old0 ?_; assumption) | (apply hp.cellF (by assumption); rfl)) rfl ?_
           refine W_guard_yes rfl ?_
           refine W_len_sl Try.underlying23 rfl rfl ?_
           refine W_guard_yes rfl ?_
           first
             | (refine W_gtr_t rfl rfl ?_ rfl ?_; (focus (omega)))
             | (refine W_gtr_f rfl rfl ?_ rfl ?_; (focus (omega)))
             | (refine W_gtr rfl rfl rfl ?_))
      first
        | (refine W_pick_t rfl rfl rfl ?_)
        | (refine W_pick_f rfl rfl rfl ?_)
        | (refine W_pick_b rfl rfl rfl rfl ?_)
      refine W_move rfl rfl ?_
      first
        | refine W_guard_lit_t rfl ?_
        | refine W_guard_lit_f rfl ?_
        | refine W_guard_lit_u rfl ?_
        | refine W_guard_split_d rfl rfl rfl (fun hg4 => ?_) (fun hg4 => ?_)
        | refine W_guard_split_n rfl rfl rfl (fun hg4 => ?_) (fun hg4 => ?_)
        | refine W_guard_split_nb rfl rfl rfl (fun hg4 => ?_) (fun hg4 => ?_)
        | refine W_guard_split rfl rfl rfl (fun hg4 => ?_) (fun hg4 => ?_)
      all_goals try (exfalso; first | omega | (simp only [Bool.false_eq_true, reduceCtorEq] at hg4; done) | (refine absurd hg4 ?_; with_reducible assumption) | (refine absurd ?_ hg4; with_reducible assumption))
      all_goals (
       first
         | (iterate 3 refine W_guard_no rfl rfl rfl ?_)
         | (iterate 3 refine W_guard_un rfl rfl ?_)
         | (refine W_guard_yes rfl ?_
            refine W_move rfl rfl ?_
            refine W_guard_yes rfl ?_
            refine W_len_s Try.underlying9 rfl rfl ?_
            refine W_guard_yes rfl ?_
            first
              | (refine W_gtr_t rfl rfl ?_ rfl ?_; (focus (omega)))
              | (refine W_gtr_f rfl rfl ?_ rfl ?_; (focus (omega)))
              | (refine W_gtr rfl rfl rfl ?_))
       first
         | (refine W_pick_t rfl rfl rfl ?_)
         | (refine W_pick_f rfl rfl rfl ?_)
         | (refine W_pick_b rfl rfl rfl rfl ?_)
       refine W_move rfl rfl ?_
       first
         | refine W_guard_lit_t rfl ?_
         | refine W_guard_lit_f rfl ?_
         | refine W_guard_lit_u rfl ?_
         | refine W_guard_split_d rfl rfl rfl (fun hg5 => ?_) (fun hg5 => ?_)
         | refine W_guard_split_n rfl rfl rfl (fun hg5 => ?_) (fun hg5 => ?_)
         | refine W_guard_split_nb rfl rfl rfl (fun hg5 => ?_) (fun hg5 => ?_)
         | refine W_guard_split rfl rfl rfl (fun hg5 => ?_) (fun hg5 => ?_)
       all_goals try (exfalso; first | omega | (simp only [Bool.false_eq_true, reduceCtorEq] at hg5; done) | (refine absurd hg5 ?_; with_reducible assumption) | (refine absurd ?_ hg5; with_reducible assumption))
       all_goals (
        first
          | (iterate 3 refine W_guard_no rfl rfl rfl ?_)
          | (iterate 3 refine W_guard_un rfl rfl ?_)
          | (refine W_guard_yes rfl ?_
             refine W_move rfl rfl ?_
             refine W_guard_yes rfl ?_
             refine W_acall hp rfl (((few12_spec w M Al cl (hrl.keep hp) hnm).eq (congrArg Value.bool hfm))) rfl ?_
             clear hp; intro w hp
             refine W_guard_yes rfl ?_
             first
               | (refine W_not_t rfl rfl ?_)
               | (refine W_not_f rfl rfl ?_)
               | (refine W_not rfl rfl ?_))
        first
          | (refine W_pick_t rfl rfl rfl ?_)
          | (refine W_pick_f rfl rfl rfl ?_)
          | (refine W_pick_b rfl rfl rfl rfl ?_)
        refine W_nil ?_
        refine N_then_k ?_
        first
          | refine K_cond_d rfl (fun hc6 => ?_) (fun hc6 => ?_)
          | refine K_cond_n rfl (fun hc6 => ?_) (fun hc6 => ?_)
          | refine K_cond_nb rfl (fun hc6 => ?_) (fun hc6 => ?_)
          | refine K_cond_t rfl (fun hc6 => ?_) (fun hc6 => ?_)
        · try (exfalso; first | omega | (simp only [Bool.false_eq_true, reduceCtorEq] at hc6; done) | (refine absurd hc6 ?_; with_reducible assumption) | (refine absurd ?_ hc6; with_reducible assumption))
          all_goals (
           refine K_seq ?_
           refine K_region ?_
           refine W_acall hp rfl ((awake_spec w)) rfl ?_
           clear hp; intro w hp
           refine W_assign rfl rfl ?_
           refine W_nil ?_
           refine N_then_k ?_
           refine K_ret ?_
           refine N_then_ret ?_
           refine N_done1 (.inr rfl) rfl rfl ?_
           exact ⟨_, rfl, rfl, hp.nil⟩)
        · try (exfalso; first | omega | (simp only [Bool.false_eq_true, reduceCtorEq] at hc6; done) | (refine absurd hc6 ?_; with_reducible assumption) | (refine absurd ?_ hc6; with_reducible assumption))
          all_goals (
           refine K_skip ?_
           refine N_then_k ?_
           refine K_seq ?_
           refine K_seq ?_
           refine K_held (Hp w0 [] [(b5, .cells [.slice Ap Mp.length cp, .bool d, .string ⟨ty.toArray⟩, .slice Ab B.length cb].toArray 25)]) (.first 0 (.first 2 (.only 1 (.only 3 (.only 4 (.first 5 (.first 6 (.first 7 (.first 9 (.only 8 (.only 10 (.only 11 (.first 12 (.first 13 (.first 14 (.first 15 (.first 17 (.only 16 (.only 18 (.only 19 (.first 20 (.first 21 .done)))))))))))))))))))))) hm hp (by kernel_rfl) (by kernel_rfl) (.first rfl (.first rfl (.only rfl (.only rfl (.only rfl (.first rfl (.first rfl (.first rfl (.first rfl (.only rfl (.only rfl (.only rfl (.first rfl (.first rfl (.first rfl (.first rfl (.first rfl (.only rfl (.only rfl (.only rfl (.first rfl (.first rfl .done)))))))))))))))))))))) ?_
           clear hp; intro w hp
           refine Wh_val (by first | exact hp | (refine hp.drop ?_; repeat (first | exact List.Sublist.refl _ | exact List.nil_sublist _ | refine List.Sublist.cons_cons _ ?_ | apply List.sublist_append_of_sublist_right | apply List.Sublist.cons))) (fun w hp => R_move rfl) rfl ?_
           refine Wh_val (by first | exact hp | (refine hp.drop ?_; repeat (first | exact List.Sublist.refl _ | exact List.nil_sublist _ | refine List.Sublist.cons_cons _ ?_ | apply List.sublist_append_of_sublist_right | apply List.Sublist.cons))) (fun w hp => R_move rfl) rfl ?_
           refine Wh_step ?_
           refine W_bcall hp rfl ((Short_spec w s)) rfl ?_
           clear hp; intro v41 G41 w r41 hp
           skip
           refine W_nil ?_
           refine Wh_next (by first | exact hp | (refine hp.drop ?_; repeat (first | exact List.Sublist.refl _ | exact List.nil_sublist _ | refine List.Sublist.cons_cons _ ?_ | apply List.sublist_append_of_sublist_right | apply List.Sublist.cons))) ?_
           refine Wh_step ?_
           refine W_bcall hp rfl ((rShort_spec w s [] _ _ (Rd.nil _) (by decide))) rfl ?_
           clear hp; intro v43 G43 w r43 hp
           skip
           refine W_nil ?_
           refine Wh_next (by first | exact hp | (refine hp.drop ?_; repeat (first | exact List.Sublist.refl _ | exact List.nil_sublist _ | refine List.Sublist.cons_cons _ ?_ | apply List.sublist_append_of_sublist_right | apply List.Sublist.cons))) ?_
           refine Wh_step ?_
           refine W_acall hp rfl ((rsameT (r41.rdr (fun p hq => hp.own p (by simp [hq]))) (r43.rdr (fun p hq => hp.own p (by simp [hq]))) (by have := reason_length s; simp [shortL]) (by have := reason_length s; simp; omega))) rfl ?_
           clear hp; intro w hp
           refine W_nil ?_
           refine Wh_next (by first | exact hp | (refine hp.drop ?_; repeat (first | exact List.Sublist.refl _ | exact List.nil_sublist _ | refine List.Sublist.cons_cons _ ?_ | apply List.sublist_append_of_sublist_right | apply List.Sublist.cons))) ?_
           first
             | (refine Wh_val (by first | exact hp | (refine hp.drop ?_; repeat (first | exact List.Sublist.refl _ | exact List.nil_sublist _ | refine List.Sublist.cons_cons _ ?_ | apply List.sublist_append_of_sublist_right | apply List.Sublist.cons))) (fun w hp => R_not_t rfl) rfl ?_)
             | (refine Wh_val (by first | exact hp | (refine hp.drop ?_; repeat (first | exact List.Sublist.refl _ | exact List.nil_sublist _ | refine List.Sublist.cons_cons _ ?_ | apply List.sublist_append_of_sublist_right | apply List.Sublist.cons))) (fun w hp => R_not_f rfl) rfl ?_)
             | (refine Wh_val (by first | exact hp | (refine hp.drop ?_; repeat (first | exact List.Sublist.refl _ | exact List.nil_sublist _ | refine List.Sublist.cons_cons _ ?_ | apply List.sublist_append_of_sublist_right | apply List.Sublist.cons))) (fun w hp => R_not rfl) rfl ?_)
           refine Wh_val (by first | exact hp | (refine hp.drop ?_; repeat (first | exact List.Sublist.refl _ | exact List.nil_sublist _ | refine List.Sublist.cons_cons _ ?_ | apply List.sublist_append_of_sublist_right | apply List.Sublist.cons))) (fun w hp => R_move rfl) rfl ?_
           first
             | refine Wh_guard_lit_t rfl ?_
             | refine Wh_guard_lit_f rfl ?_
             | refine Wh_guard_lit_u rfl ?_
             | refine Wh_guard_split_d rfl rfl rfl (fun hg7 => ?_) (fun hg7 => ?_)
             | refine Wh_guard_split_n rfl rfl rfl (fun hg7 => ?_) (fun hg7 => ?_)
             | refine Wh_guard_split_nb rfl rfl rfl (fun hg7 => ?_) (fun hg7 => ?_)
             | refine Wh_guard_split rfl rfl rfl (fun hg7 => ?_) (fun hg7 => ?_)
           all_goals try (exfalso; first | omega | (simp only [Bool.false_eq_true, reduceCtorEq] at hg7; done) | (refine absurd hg7 ?_; with_reducible assumption) | (refine absurd ?_ hg7; with_reducible assumption))
           all_goals (
            first
              | (refine Wh_guard_no (by first | exact hp | (refine hp.drop ?_; repeat (first | exact List.Sublist.refl _ | exact List.nil_sublist _ | refine List.Sublist.cons_cons _ ?_ | apply List.sublist_append_of_sublist_right | apply List.Sublist.cons))) rfl rfl rfl ?_)
              | (refine Wh_guard_un (by first | exact hp | (refine hp.drop ?_; repeat (first | exact List.Sublist.refl _ | exact List.nil_sublist _ | refine List.Sublist.cons_cons _ ?_ | apply List.sublist_append_of_sublist_right | apply List.Sublist.cons))) rfl rfl ?_)
              | (refine Wh_guard_yes rfl ?_
                 refine Wh_val (by first | exact hp | (refine hp.drop ?_; repeat (first | exact List.Sublist.refl _ | exact List.nil_sublist _ | refine List.Sublist.cons_cons _ ?_ | apply List.sublist_append_of_sublist_right | apply List.Sublist.cons))) (fun w hp => R_load_own Try.underlying25 rfl sz25 rfl hp (by first | exact List.mem_cons_self | exact .tail _ (.head _) | exact .tail _ (.tail _ (.head _)) | exact .tail _ (.tail _ (.tail _ (.head _))) | exact .tail _ (.tail _ (.tail _ (.tail _ (.head _)))) | exact .tail _ (.tail _ (.tail _ (.tail _ (.tail _ (.head _))))) | exact List.mem_append_right _ (.head _) | exact List.mem_append_right _ (.tail _ (.head _)) | exact List.mem_append_right _ (.tail _ (.tail _ (.head _))) | exact .tail _ (List.mem_append_right _ (.head _)) | exact .tail _ (List.mem_append_right _ (.tail _ (.head _))) | assumption | (repeat (first | exact List.mem_cons_self | apply List.mem_append_right | apply List.mem_cons_of_mem))) rfl rfl) rfl ?_)
            first
              | (refine Wh_guard_no (by first | exact hp | (refine hp.drop ?_; repeat (first | exact List.Sublist.refl _ | exact List.nil_sublist _ | refine List.Sublist.cons_cons _ ?_ | apply List.sublist_append_of_sublist_right | apply List.Sublist.cons))) rfl rfl rfl ?_)
              | (refine Wh_guard_un (by first | exact hp | (refine hp.drop ?_; repeat (first | exact List.Sublist.refl _ | exact List.nil_sublist _ | refine List.Sublist.cons_cons _ ?_ | apply List.sublist_append_of_sublist_right | apply List.Sublist.cons))) rfl rfl ?_)
              | (refine Wh_guard_yes rfl ?_
                 refine Wh_val (by first | exact hp | (refine hp.drop ?_; repeat (first | exact List.Sublist.refl _ | exact List.nil_sublist _ | refine List.Sublist.cons_cons _ ?_ | apply List.sublist_append_of_sublist_right | apply List.Sublist.cons))) (fun w hp => R_load_own Try.underlying25 rfl sz25 rfl hp (by first | exact List.mem_cons_self | exact .tail _ (.head _) | exact .tail _ (.tail _ (.head _)) | exact .tail _ (.tail _ (.tail _ (.head _))) | exact .tail _ (.tail _ (.tail _ (.tail _ (.head _)))) | exact .tail _ (.tail _ (.tail _ (.tail _ (.tail _ (.head _))))) | exact List.mem_append_right _ (.head _) | exact List.mem_append_right _ (.tail _ (.head _)) | exact List.mem_append_right _ (.tail _ (.tail _ (.head _))) | exact .tail _ (List.mem_append_right _ (.head _)) | exact .tail _ (List.mem_append_right _ (.tail _ (.head _))) | assumption | (repeat (first | exact List.mem_cons_self | apply List.mem_append_right | apply List.mem_cons_of_mem))) rfl rfl) rfl ?_)
            refine Wh_step ?_
            first
              | (refine W_guard_no rfl rfl rfl ?_)
              | (refine W_guard_un rfl rfl ?_)
              | (refine W_guard_yes rfl ?_
                 refine W_bcall hp rfl ((File_spec w (.slice none 0 0) ty d B Ab cb (hrb.keep hp) Ap Mp.length cp (by omega))) rfl ?_
                 clear hp; intro v48 G48 w r48 hp
                 skip)
            refine W_nil ?_
            refine Wh_next (by first | exact hp | (refine hp.drop ?_; repeat (first | exact List.Sublist.refl _ | exact List.nil_sublist _ | refine List.Sublist.cons_cons _ ?_ | apply List.sublist_append_of_sublist_right | apply List.Sublist.cons))) ?_
            refine Wh_step ?_
            first
              | (refine W_guard_no rfl rfl rfl ?_)
              | (refine W_guard_un rfl rfl ?_)
              | (refine W_guard_yes rfl ?_
                 refine W_bcall hp rfl ((rFile_spec w ty d B Ab cb (hrb.keep hp) Ap Mp.length cp (by omega))) rfl ?_
                 clear hp; intro v50 G50 w r50 hp
                 skip)
            refine W_nil ?_
            refine Wh_next (by first | exact hp | (refine hp.drop ?_; repeat (first | exact List.Sublist.refl _ | exact List.nil_sublist _ | refine List.Sublist.cons_cons _ ?_ | apply List.sublist_append_of_sublist_right | apply List.Sublist.cons))) ?_
            refine Wh_step ?_
            first
              | (refine W_guard_no rfl rfl rfl ?_)
              | (refine W_guard_un rfl rfl ?_)
              | (refine W_guard_yes rfl ?_
                 refine W_acall hp rfl ((rsameT (r48.rdr (fun p hq => hp.own p (by simp [hq]))) (RespR.rdr r50 (fun p hq => hp.own p (by simp [hq])) (hrb.keep hp)) (by simp) (by omega))) rfl ?_
                 clear hp; intro w hp)
            refine W_nil ?_
            refine Wh_next (by first | exact hp | (refine hp.drop ?_; repeat (first | exact List.Sublist.refl _ | exact List.nil_sublist _ | refine List.Sublist.cons_cons _ ?_ | apply List.sublist_append_of_sublist_right | apply List.Sublist.cons))) ?_
            first
              | (refine Wh_guard_no (by first | exact hp | (refine hp.drop ?_; repeat (first | exact List.Sublist.refl _ | exact List.nil_sublist _ | refine List.Sublist.cons_cons _ ?_ | apply List.sublist_append_of_sublist_right | apply List.Sublist.cons))) rfl rfl rfl ?_)
              | (refine Wh_guard_un (by first | exact hp | (refine hp.drop ?_; repeat (first | exact List.Sublist.refl _ | exact List.nil_sublist _ | refine List.Sublist.cons_cons _ ?_ | apply List.sublist_append_of_sublist_right | apply List.Sublist.cons))) rfl rfl ?_)
              | (refine Wh_guard_yes rfl ?_
                 first
                   | (refine Wh_val (by first | exact hp | (refine hp.drop ?_; repeat (first | exact List.Sublist.refl _ | exact List.nil_sublist _ | refine List.Sublist.cons_cons _ ?_ | apply List.sublist_append_of_sublist_right | apply List.Sublist.cons))) (fun w hp => R_not_t rfl) rfl ?_)
                   | (refine Wh_val (by first | exact hp | (refine hp.drop ?_; repeat (first | exact List.Sublist.refl _ | exact List.nil_sublist _ | refine List.Sublist.cons_cons _ ?_ | apply List.sublist_append_of_sublist_right | apply List.Sublist.cons))) (fun w hp => R_not_f rfl) rfl ?_)
                   | (refine Wh_val (by first | exact hp | (refine hp.drop ?_; repeat (first | exact List.Sublist.refl _ | exact List.nil_sublist _ | refine List.Sublist.cons_cons _ ?_ | apply List.sublist_append_of_sublist_right | apply List.Sublist.cons))) (fun w hp => R_not rfl) rfl ?_))
            first
              | (refine Wh_val (by first | exact hp | (refine hp.drop ?_; repeat (first | exact List.Sublist.refl _ | exact List.nil_sublist _ | refine List.Sublist.cons_cons _ ?_ | apply List.sublist_append_of_sublist_right | apply List.Sublist.cons))) (fun w hp => R_pick_t rfl rfl) rfl ?_)
              | (refine Wh_val (by first | exact hp | (refine hp.drop ?_; repeat (first | exact List.Sublist.refl _ | exact List.nil_sublist _ | refine List.Sublist.cons_cons _ ?_ | apply List.sublist_append_of_sublist_right | apply List.Sublist.cons))) (fun w hp => R_pick_f rfl rfl) rfl ?_)
              | (refine Wh_val (by first | exact hp | (refine hp.drop ?_; repeat (first | exact List.Sublist.refl _ | exact List.nil_sublist _ | refine List.Sublist.cons_cons _ ?_ | apply List.sublist_append_of_sublist_right | apply List.Sublist.cons))) (fun w hp => R_pick_b rfl rfl rfl) rfl ?_)
            refine Wh_val (by first | exact hp | (refine hp.drop ?_; repeat (first | exact List.Sublist.refl _ | exact List.nil_sublist _ | refine List.Sublist.cons_cons _ ?_ | apply List.sublist_append_of_sublist_right | apply List.Sublist.cons))) (fun w hp => R_move rfl) rfl ?_
            first
              | refine Wh_guard_lit_t rfl ?_
              | refine Wh_guard_lit_f rfl ?_
              | refine Wh_guard_lit_u rfl ?_
              | refine Wh_guard_split_d rfl rfl rfl (fun hg8 => ?_) (fun hg8 => ?_)
              | refine Wh_guard_split_n rfl rfl rfl (fun hg8 => ?_) (fun hg8 => ?_)
              | refine Wh_guard_split_nb rfl rfl rfl (fun hg8 => ?_) (fun hg8 => ?_)
              | refine Wh_guard_split rfl rfl rfl (fun hg8 => ?_) (fun hg8 => ?_)
            all_goals try (exfalso; first | omega | (simp only [Bool.false_eq_true, reduceCtorEq] at hg8; done) | (refine absurd hg8 ?_; with_reducible assumption) | (refine absurd ?_ hg8; with_reducible assumption))
            all_goals (
             first
               | (refine Wh_guard_no (by first | exact hp | (refine hp.drop ?_; repeat (first | exact List.Sublist.refl _ | exact List.nil_sublist _ | refine List.Sublist.cons_cons _ ?_ | apply List.sublist_append_of_sublist_right | apply List.Sublist.cons))) rfl rfl rfl ?_)
               | (refine Wh_guard_un (by first | exact hp | (refine hp.drop ?_; repeat (first | exact List.Sublist.refl _ | exact List.nil_sublist _ | refine List.Sublist.cons_cons _ ?_ | apply List.sublist_append_of_sublist_right | apply List.Sublist.cons))) rfl rfl ?_)
               | (refine Wh_guard_yes rfl ?_
                  refine Wh_val (by first | exact hp | (refine hp.drop ?_; repeat (first | exact List.Sublist.refl _ | exact List.nil_sublist _ | refine List.Sublist.cons_cons _ ?_ | apply List.sublist_append_of_sublist_right | apply List.Sublist.cons))) (fun w hp => R_move rfl) rfl ?_)
             first
               | (refine Wh_guard_no (by first | exact hp | (refine hp.drop ?_; repeat (first | exact List.Sublist.refl _ | exact List.nil_sublist _ | refine List.Sublist.cons_cons _ ?_ | apply List.sublist_append_of_sublist_right | apply List.Sublist.cons))) rfl rfl rfl ?_)
               | (refine Wh_guard_un (by first | exact hp | (refine hp.drop ?_; repeat (first | exact List.Sublist.refl _ | exact List.nil_sublist _ | refine List.Sublist.cons_cons _ ?_ | apply List.sublist_append_of_sublist_right | apply List.Sublist.cons))) rfl rfl ?_)
               | (refine Wh_guard_yes rfl ?_
                  refine Wh_val (by first | exact hp | (refine hp.drop ?_; repeat (first | exact List.Sublist.refl _ | exact List.nil_sublist _ | refine List.Sublist.cons_cons _ ?_ | apply List.sublist_append_of_sublist_right | apply List.Sublist.cons))) (fun w hp => R_move rfl) rfl ?_)
             refine Wh_step ?_
             first
               | (refine W_guard_no rfl rfl rfl ?_)
               | (refine W_guard_un rfl rfl ?_)
               | (refine W_guard_yes rfl ?_
                  refine W_bcall hp rfl ((Moved_spec w t (by omega))) rfl ?_
                  clear hp; intro v56 G56 w r56 hp
                  skip)
             refine W_nil ?_
             refine Wh_next (by first | exact hp | (refine hp.drop ?_; repeat (first | exact List.Sublist.refl _ | exact List.nil_sublist _ | refine List.Sublist.cons_cons _ ?_ | apply List.sublist_append_of_sublist_right | apply List.Sublist.cons))) ?_
             refine Wh_step ?_
             first
               | (refine W_guard_no rfl rfl rfl ?_)
               | (refine W_guard_un rfl rfl ?_)
               | (refine W_guard_yes rfl ?_
                  refine W_bcall hp rfl ((rMoved_spec w t (by omega))) rfl ?_
                  clear hp; intro v58 G58 w r58 hp
                  skip)
             refine W_nil ?_
             refine Wh_next (by first | exact hp | (refine hp.drop ?_; repeat (first | exact List.Sublist.refl _ | exact List.nil_sublist _ | refine List.Sublist.cons_cons _ ?_ | apply List.sublist_append_of_sublist_right | apply List.Sublist.cons))) ?_
             refine Wh_step ?_
             first
               | (refine W_guard_no rfl rfl rfl ?_)
               | (refine W_guard_un rfl rfl ?_)
               | (refine W_guard_yes rfl ?_
                  refine W_acall hp rfl ((rsameT (r56.rdr (fun p hq => hp.own p (by simp [hq]))) (r58.rdr (fun p hq => hp.own p (by simp [hq]))) (by simp [shortL]) (by have := reason_length 301; simp; omega))) rfl ?_
                  clear hp; intro w hp)
             refine W_nil ?_
             refine Wh_next (by first | exact hp | (refine hp.drop ?_; repeat (first | exact List.Sublist.refl _ | exact List.nil_sublist _ | refine List.Sublist.cons_cons _ ?_ | apply List.sublist_append_of_sublist_right | apply List.Sublist.cons))) ?_
             first
               | (refine Wh_guard_no (by first | exact hp | (refine hp.drop ?_; repeat (first | exact List.Sublist.refl _ | exact List.nil_sublist _ | refine List.Sublist.cons_cons _ ?_ | apply List.sublist_append_of_sublist_right | apply List.Sublist.cons))) rfl rfl rfl ?_)
               | (refine Wh_guard_un (by first | exact hp | (refine hp.drop ?_; repeat (first | exact List.Sublist.refl _ | exact List.nil_sublist _ | refine List.Sublist.cons_cons _ ?_ | apply List.sublist_append_of_sublist_right | apply List.Sublist.cons))) rfl rfl ?_)
               | (refine Wh_guard_yes rfl ?_
                  first
                    | (refine Wh_val (by first | exact hp | (refine hp.drop ?_; repeat (first | exact List.Sublist.refl _ | exact List.nil_sublist _ | refine List.Sublist.cons_cons _ ?_ | apply List.sublist_append_of_sublist_right | apply List.Sublist.cons))) (fun w hp => R_not_t rfl) rfl ?_)
                    | (refine Wh_val (by first | exact hp | (refine hp.drop ?_; repeat (first | exact List.Sublist.refl _ | exact List.nil_sublist _ | refine List.Sublist.cons_cons _ ?_ | apply List.sublist_append_of_sublist_right | apply List.Sublist.cons))) (fun w hp => R_not_f rfl) rfl ?_)
                    | (refine Wh_val (by first | exact hp | (refine hp.drop ?_; repeat (first | exact List.Sublist.refl _ | exact List.nil_sublist _ | refine List.Sublist.cons_cons _ ?_ | apply List.sublist_append_of_sublist_right | apply List.Sublist.cons))) (fun w hp => R_not rfl) rfl ?_))
             first
               | (refine Wh_val (by first | exact hp | (refine hp.drop ?_; repeat (first | exact List.Sublist.refl _ | exact List.nil_sublist _ | refine List.Sublist.cons_cons _ ?_ | apply List.sublist_append_of_sublist_right | apply List.Sublist.cons))) (fun w hp => R_pick_t rfl rfl) rfl ?_)
               | (refine Wh_val (by first | exact hp | (refine hp.drop ?_; repeat (first | exact List.Sublist.refl _ | exact List.nil_sublist _ | refine List.Sublist.cons_cons _ ?_ | apply List.sublist_append_of_sublist_right | apply List.Sublist.cons))) (fun w hp => R_pick_f rfl rfl) rfl ?_)
               | (refine Wh_val (by first | exact hp | (refine hp.drop ?_; repeat (first | exact List.Sublist.refl _ | exact List.nil_sublist _ | refine List.Sublist.cons_cons _ ?_ | apply List.sublist_append_of_sublist_right | apply List.Sublist.cons))) (fun w hp => R_pick_b rfl rfl rfl) rfl ?_)
             refine Wh_nil ?_
             refine N_then_k ?_
             first
               | refine K_cond_d rfl (fun hc9 => ?_) (fun hc9 => ?_)
               | refine K_cond_n rfl (fun hc9 => ?_) (fun hc9 => ?_)
               | refine K_cond_nb rfl (fun hc9 => ?_) (fun hc9 => ?_)
               | refine K_cond_t rfl (fun hc9 => ?_) (fun hc9 => ?_)
             · try (exfalso; first | omega | (simp only [Bool.false_eq_true, reduceCtorEq] at hc9; done) | (refine absurd hc9 ?_; with_reducible assumption) | (refine absurd ?_ hc9; with_reducible assumption))
               all_goals (
                refine K_seq ?_
                refine K_region ?_
                refine W_assign rfl rfl ?_
                refine W_nil ?_
                refine N_then_k ?_
                refine K_ret ?_
                refine N_then_ret ?_
                refine N_done1 (.inr rfl) rfl rfl ?_
                exact ⟨_, rfl, rfl, hp.nil⟩)
             · try (exfalso; first | omega | (simp only [Bool.false_eq_true, reduceCtorEq] at hc9; done) | (refine absurd hc9 ?_; with_reducible assumption) | (refine absurd ?_ hc9; with_reducible assumption))
               all_goals (
                refine K_skip ?_
                refine N_then_k ?_
                refine K_seq ?_
                refine K_region ?_
                refine W_move rfl rfl ?_
                refine W_bcall hp rfl ((Denied_spec w t (by omega))) rfl ?_
                clear hp; intro v63 G63 w r63 hp
                skip
                refine W_move rfl rfl ?_
                refine W_bcall hp rfl ((rDenied_spec w t (by omega))) rfl ?_
                clear hp; intro v65 G65 w r65 hp
                skip
                refine W_acall hp rfl ((rsameT (r63.rdr (fun p hq => hp.own p (by simp [hq]))) (r65.rdr (fun p hq => hp.own p (by simp [hq]))) (by simp [shortL]) (by have := reason_length 401; simp; omega))) rfl ?_
                clear hp; intro w hp
                refine W_move rfl rfl ?_
                first
                  | refine W_guard_lit_t rfl ?_
                  | refine W_guard_lit_f rfl ?_
                  | refine W_guard_lit_u rfl ?_
                  | refine W_guard_split_d rfl rfl rfl (fun hg10 => ?_) (fun hg10 => ?_)
                  | refine W_guard_split_n rfl rfl rfl (fun hg10 => ?_) (fun hg10 => ?_)
                  | refine W_guard_split_nb rfl rfl rfl (fun hg10 => ?_) (fun hg10 => ?_)
                  | refine W_guard_split rfl rfl rfl (fun hg10 => ?_) (fun hg10 => ?_)
                all_goals try (exfalso; first | omega | (simp only [Bool.false_eq_true, reduceCtorEq] at hg10; done) | (refine absurd hg10 ?_; with_reducible assumption) | (refine absurd ?_ hg10; with_reducible assumption))
                all_goals (
                 first
                   | (iterate 5 refine W_guard_no rfl rfl rfl ?_)
                   | (iterate 5 refine W_guard_un rfl rfl ?_)
                   | (refine W_guard_yes rfl ?_
                      refine W_move rfl rfl ?_
                      refine W_guard_yes rfl ?_
                      refine W_bcall hp rfl ((Wrong_spec w M Al cl (hrl.keep hp) hcl (by omega) hj)) rfl ?_
                      clear hp; intro v69 G69 w r69 hp
                      skip
                      refine W_guard_yes rfl ?_
                      refine W_move rfl rfl ?_
                      refine W_guard_yes rfl ?_
                      refine W_bcall hp rfl ((rWrong_spec w M Al cl (hrl.keep hp) (by omega) hj)) rfl ?_
                      clear hp; intro v71 G71 w r71 hp
                      skip
                      refine W_guard_yes rfl ?_
                      refine W_acall hp rfl ((rsameT (r69.rdr (fun p hq => hp.own p (by simp [hq]))) (r71.rdr (fun p hq => hp.own p (by simp [hq]))) (by simp [shortL]) (by have := reason_length 405; simp; omega))) rfl ?_
                      clear hp; intro w hp)
                 first
                   | (refine W_pick_t rfl rfl rfl ?_)
                   | (refine W_pick_f rfl rfl rfl ?_)
                   | (refine W_pick_b rfl rfl rfl rfl ?_)
                 refine W_move rfl rfl ?_
                 first
                   | refine W_guard_lit_t rfl ?_
                   | refine W_guard_lit_f rfl ?_
                   | refine W_guard_lit_u rfl ?_
                   | refine W_guard_split_d rfl rfl rfl (fun hg11 => ?_) (fun hg11 => ?_)
                   | refine W_guard_split_n rfl rfl rfl (fun hg11 => ?_) (fun hg11 => ?_)
                   | refine W_guard_split_nb rfl rfl rfl (fun hg11 => ?_) (fun hg11 => ?_)
                   | refine W_guard_split rfl rfl rfl (fun hg11 => ?_) (fun hg11 => ?_)
                 all_goals try (exfalso; first | omega | (simp only [Bool.false_eq_true, reduceCtorEq] at hg11; done) | (refine absurd hg11 ?_; with_reducible assumption) | (refine absurd ?_ hg11; with_reducible assumption))
                 all_goals (
                  first
                    | (iterate 5 refine W_guard_no rfl rfl rfl ?_)
                    | (iterate 5 refine W_guard_un rfl rfl ?_)
                    | (refine W_guard_yes rfl ?_
                       refine W_move rfl rfl ?_
                       refine W_guard_yes rfl ?_
                       refine W_bcall hp rfl ((Options_spec w M Al cl (hrl.keep hp) hcl (by omega) hj)) rfl ?_
                       clear hp; intro v76 G76 w r76 hp
                       skip
                       refine W_guard_yes rfl ?_
                       refine W_move rfl rfl ?_
                       refine W_guard_yes rfl ?_
                       refine W_bcall hp rfl ((rOptions_spec w M Al cl (hrl.keep hp) (by omega) hj)) rfl ?_
                       clear hp; intro v78 G78 w r78 hp
                       skip
                       refine W_guard_yes rfl ?_
                       refine W_acall hp rfl ((rsameT (r76.rdr (fun p hq => hp.own p (by simp [hq]))) (RespR.rdr (B := []) r78 (fun p hq => hp.own p (by simp [hq])) (Rd.nil _)) (by simp) (by decide))) rfl ?_
                       clear hp; intro w hp)
                  first
                    | (refine W_pick_t rfl rfl rfl ?_)
                    | (refine W_pick_f rfl rfl rfl ?_)
                    | (refine W_pick_b rfl rfl rfl rfl ?_)
                  refine W_assign rfl rfl ?_
                  refine W_nil ?_
                  refine N_then_k ?_
                  refine K_ret ?_
                  refine N_done1 (.inr rfl) rfl rfl ?_
                  exact ⟨_, rfl, rfl, hp.nil⟩))))))))))))

set_option maxHeartbeats 1600000 in
theorem FI_walk (w0 : World) (st1 : Int) (L1 : List RPair) (A1 : Option Addr) (a1 : Nat) (h1 : Rd w0 (.slice A1 L1.length a1) L1.length (pairC L1)) (hn1 : L1.length ≤ 9223372036854775807) (B1 : List UInt8) (C1 : Option Addr) (c1 : Nat) (g1 : Rd w0 (.slice C1 B1.length c1) B1.length (bytesV B1)) (st2 : Int) (L2 : List RPair) (A2 : Option Addr) (a2 : Nat) (h2 : Rd w0 (.slice A2 L2.length a2) L2.length (pairC L2)) (hn2 : L2.length ≤ 9223372036854775807) (B2 : List UInt8) (C2 : Option Addr) (c2 : Nat) (g2 : Rd w0 (.slice C2 B2.length c2) B2.length (bytesV B2)) (m : List UInt8) (mi : Int) (ke : Bool) : PureAt Try.prog 4 [.agg #[.int .i64 st1, .slice A1 L1.length a1, .slice C1 B1.length c1], .agg #[.int .i64 st2, .slice A2 L2.length a2, .slice C2 B2.length c2], .string ⟨m.toArray⟩, .int .i64 mi, .bool ke] (.bool true) w0 := by
  have hfl := finL_length ke mi
  have hfb := finB_length m B1
  rcases Decidable.em (st1 = st2 ∧ L1 = L2 ∧ B1 = B2) with hE | hE
  all_goals cases hf1 : fewR L1 B1
  all_goals cases hf2 : fewR L2 B2
  all_goals first | (obtain ⟨hM1, hM2⟩ := fewR_spec hf1) | skip
  all_goals first | (obtain ⟨hM3, hM4⟩ := fewR_spec hf2) | skip
  all_goals (
   refine PureAt.intro go4 Try.func4 rfl rfl fun hp => ?_
   refine (fun (hk : ∀ w, Hp w0 [] [] w → K _ _ _ _ _ w) => hk w0 hp) fun w hp => ?_
   refine K_seq ?_
   refine K_region ?_
   refine W_box hp rfl rfl rfl ?_
   clear hp; intro b5 w hp
   refine W_box hp rfl rfl rfl ?_
   clear hp; intro b6 w hp
   refine W_assign rfl rfl ?_
   refine W_nil ?_
   refine N_then_k ?_
   refine K_seq ?_
   refine K_seq ?_
   refine K_region ?_
   refine W_acall hp rfl ((awake_spec w)) rfl ?_
   clear hp; intro w hp
   first
     | (refine W_not_t rfl rfl ?_)
     | (refine W_not_f rfl rfl ?_)
     | (refine W_not rfl rfl ?_)
   refine W_move rfl rfl ?_
   first
     | refine W_guard_lit_t rfl ?_
     | refine W_guard_lit_f rfl ?_
     | refine W_guard_lit_u rfl ?_
     | refine W_guard_split_d rfl rfl rfl (fun hg1 => ?_) (fun hg1 => ?_)
     | refine W_guard_split_n rfl rfl rfl (fun hg1 => ?_) (fun hg1 => ?_)
     | refine W_guard_split_nb rfl rfl rfl (fun hg1 => ?_) (fun hg1 => ?_)
     | refine W_guard_split rfl rfl rfl (fun hg1 => ?_) (fun hg1 => ?_)
   all_goals try (exfalso; first | omega | (simp only [Bool.false_eq_true, reduceCtorEq] at hg1; done) | (refine absurd hg1 ?_; with_reducible assumption) | (refine absurd ?_ hg1; with_reducible assumption))
   all_goals (
    first
      | (iterate 3 refine W_guard_no rfl rfl rfl ?_)
      | (iterate 3 refine W_guard_un rfl rfl ?_)
      | (refine W_guard_yes rfl ?_
         refine W_load_own Try.underlying32 rfl sz32 rfl hp (by first | exact List.mem_cons_self | exact .tail _ (.head _) | exact .tail _ (.tail _ (.head _)) | exact .tail _ (.tail _ (.tail _ (.head _))) | exact .tail _ (.tail _ (.tail _ (.tail _ (.head _)))) | exact .tail _ (.tail _ (.tail _ (.tail _ (.tail _ (.head _))))) | exact List.mem_append_right _ (.head _) | exact List.mem_append_right _ (.tail _ (.head _)) | exact List.mem_append_right _ (.tail _ (.tail _ (.head _))) | exact .tail _ (List.mem_append_right _ (.head _)) | exact .tail _ (List.mem_append_right _ (.tail _ (.head _))) | assumption | (repeat (first | exact List.mem_cons_self | apply List.mem_append_right | apply List.mem_cons_of_mem))) rfl rfl rfl ?_
         refine W_guard_yes rfl ?_
         refine W_acall hp rfl (((few25_spec w st1 L1 A1 a1 (h1.keep hp) B1 C1 c1 hn1).eq (congrArg Value.bool hf1))) rfl ?_
         clear hp; intro w hp
         refine W_guard_yes rfl ?_
         first
           | (refine W_not_t rfl rfl ?_)
           | (refine W_not_f rfl rfl ?_)
           | (refine W_not rfl rfl ?_))
    first
      | (refine W_pick_t rfl rfl rfl ?_)
      | (refine W_pick_f rfl rfl rfl ?_)
      | (refine W_pick_b rfl rfl rfl rfl ?_)
    refine W_move rfl rfl ?_
    first
      | refine W_guard_lit_t rfl ?_
      | refine W_guard_lit_f rfl ?_
      | refine W_guard_lit_u rfl ?_
      | refine W_guard_split_d rfl rfl rfl (fun hg2 => ?_) (fun hg2 => ?_)
      | refine W_guard_split_n rfl rfl rfl (fun hg2 => ?_) (fun hg2 => ?_)
      | refine W_guard_split_nb rfl rfl rfl (fun hg2 => ?_) (fun hg2 => ?_)
      | refine W_guard_split rfl rfl rfl (fun hg2 => ?_) (fun hg2 => ?_)
    all_goals try (exfalso; first | omega | (simp only [Bool.false_eq_true, reduceCtorEq] at hg2; done) | (refine absurd hg2 ?_; with_reducible assumption) | (refine absurd ?_ hg2; with_reducible assumption))
    all_goals (
     first
       | (iterate 3 refine W_guard_no rfl rfl rfl ?_)
       | (iterate 3 refine W_guard_un rfl rfl ?_)
       | (refine W_guard_yes rfl ?_
          refine W_load_own Try.underlying32 rfl sz32 rfl hp (by first | exact List.mem_cons_self | exact .tail _ (.head _) | exact .tail _ (.tail _ (.head _)) | exact .tail _ (.tail _ (.tail _ (.head _))) | exact .tail _ (.tail _ (.tail _ (.tail _ (.head _)))) | exact .tail _ (.tail _ (.tail _ (.tail _ (.tail _ (.head _))))) | exact List.mem_append_right _ (.head _) | exact List.mem_append_right _ (.tail _ (.head _)) | exact List.mem_append_right _ (.tail _ (.tail _ (.head _))) | exact .tail _ (List.mem_append_right _ (.head _)) | exact .tail _ (List.mem_append_right _ (.tail _ (.head _))) | assumption | (repeat (first | exact List.mem_cons_self | apply List.mem_append_right | apply List.mem_cons_of_mem))) rfl rfl rfl ?_
          refine W_guard_yes rfl ?_
          refine W_acall hp rfl (((few25_spec w st2 L2 A2 a2 (h2.keep hp) B2 C2 c2 hn2).eq (congrArg Value.bool hf2))) rfl ?_
          clear hp; intro w hp
          refine W_guard_yes rfl ?_
          first
            | (refine W_not_t rfl rfl ?_)
            | (refine W_not_f rfl rfl ?_)
            | (refine W_not rfl rfl ?_))
     first
       | (refine W_pick_t rfl rfl rfl ?_)
       | (refine W_pick_f rfl rfl rfl ?_)
       | (refine W_pick_b rfl rfl rfl rfl ?_)
     refine W_move rfl rfl ?_
     first
       | refine W_guard_lit_t rfl ?_
       | refine W_guard_lit_f rfl ?_
       | refine W_guard_lit_u rfl ?_
       | refine W_guard_split_d rfl rfl rfl (fun hg3 => ?_) (fun hg3 => ?_)
       | refine W_guard_split_n rfl rfl rfl (fun hg3 => ?_) (fun hg3 => ?_)
       | refine W_guard_split_nb rfl rfl rfl (fun hg3 => ?_) (fun hg3 => ?_)
       | refine W_guard_split rfl rfl rfl (fun hg3 => ?_) (fun hg3 => ?_)
     all_goals try (exfalso; first | omega | (simp only [Bool.false_eq_true, reduceCtorEq] at hg3; done) | (refine absurd hg3 ?_; with_reducible assumption) | (refine absurd ?_ hg3; with_reducible assumption))
     all_goals (
      first
        | (iterate 3 refine W_guard_no rfl rfl rfl ?_)
        | (iterate 3 refine W_guard_un rfl rfl ?_)
        | (refine W_guard_yes rfl ?_
           refine W_move rfl rfl ?_
           refine W_guard_yes rfl ?_
           refine W_len_s Try.underlying9 rfl rfl ?_
           refine W_guard_yes rfl ?_
           first
             | (refine W_gtr_t rfl rfl ?_ rfl ?_; (focus (omega)))
             | (refine W_gtr_f rfl rfl ?_ rfl ?_; (focus (omega)))
             | (refine W_gtr rfl rfl rfl ?_))
      first
        | (refine W_pick_t rfl rfl rfl ?_)
        | (refine W_pick_f rfl rfl rfl ?_)
        | (refine W_pick_b rfl rfl rfl rfl ?_)
      refine W_nil ?_
      refine N_then_k ?_
      first
        | refine K_cond_d rfl (fun hc4 => ?_) (fun hc4 => ?_)
        | refine K_cond_n rfl (fun hc4 => ?_) (fun hc4 => ?_)
        | refine K_cond_nb rfl (fun hc4 => ?_) (fun hc4 => ?_)
        | refine K_cond_t rfl (fun hc4 => ?_) (fun hc4 => ?_)
      · try (exfalso; first | omega | (simp only [Bool.false_eq_true, reduceCtorEq] at hc4; done) | (refine absurd hc4 ?_; with_reducible assumption) | (refine absurd ?_ hc4; with_reducible assumption))
        all_goals (
         refine K_seq ?_
         refine K_region ?_
         refine W_acall hp rfl ((awake_spec w)) rfl ?_
         clear hp; intro w hp
         refine W_assign rfl rfl ?_
         refine W_nil ?_
         refine N_then_k ?_
         refine K_ret ?_
         refine N_then_ret ?_
         refine N_done1 (.inr rfl) rfl rfl ?_
         exact ⟨_, rfl, rfl, hp.nil⟩)
      · try (exfalso; first | omega | (simp only [Bool.false_eq_true, reduceCtorEq] at hc4; done) | (refine absurd hc4 ?_; with_reducible assumption) | (refine absurd ?_ hc4; with_reducible assumption))
        all_goals (
         refine K_skip ?_
         refine N_then_k ?_
         refine K_seq ?_
         refine K_held (Hp w0 [] [(b6, .cells [.int .i64 st2, .slice A2 L2.length a2, .slice C2 B2.length c2].toArray 32), (b5, .cells [.int .i64 st1, .slice A1 L1.length a1, .slice C1 B1.length c1].toArray 32)]) (.first 0 (.first 1 (.first 2 (.first 3 (.first 5 (.first 6 (.first 7 (.first 8 (.only 4 (.only 9 (.only 10 (.first 11 (.first 12 (.first 13 (.first 15 (.first 16 (.only 14 (.only 17 (.first 18 (.first 19 (.first 20 (.first 21 (.first 22 (.only 23 (.first 24 (.first 25 .done)))))))))))))))))))))))))) hm hp (by kernel_rfl) (by kernel_rfl) (.first rfl (.first rfl (.first rfl (.first rfl (.first rfl (.first rfl (.first rfl (.first rfl (.only rfl (.only rfl (.only rfl (.first rfl (.first rfl (.first rfl (.first rfl (.first rfl (.only rfl (.only rfl (.first rfl (.first rfl (.first rfl (.first rfl (.first rfl (.only rfl (.first rfl (.first rfl .done)))))))))))))))))))))))))) ?_
         clear hp; intro w hp
         refine Wh_val (by first | exact hp | (refine hp.drop ?_; repeat (first | exact List.Sublist.refl _ | exact List.nil_sublist _ | refine List.Sublist.cons_cons _ ?_ | apply List.sublist_append_of_sublist_right | apply List.Sublist.cons))) (fun w hp => R_load_own Try.underlying32 rfl sz32 rfl hp (by first | exact List.mem_cons_self | exact .tail _ (.head _) | exact .tail _ (.tail _ (.head _)) | exact .tail _ (.tail _ (.tail _ (.head _))) | exact .tail _ (.tail _ (.tail _ (.tail _ (.head _)))) | exact .tail _ (.tail _ (.tail _ (.tail _ (.tail _ (.head _))))) | exact List.mem_append_right _ (.head _) | exact List.mem_append_right _ (.tail _ (.head _)) | exact List.mem_append_right _ (.tail _ (.tail _ (.head _))) | exact .tail _ (List.mem_append_right _ (.head _)) | exact .tail _ (List.mem_append_right _ (.tail _ (.head _))) | assumption | (repeat (first | exact List.mem_cons_self | apply List.mem_append_right | apply List.mem_cons_of_mem))) rfl rfl) rfl ?_
         refine Wh_val (by first | exact hp | (refine hp.drop ?_; repeat (first | exact List.Sublist.refl _ | exact List.nil_sublist _ | refine List.Sublist.cons_cons _ ?_ | apply List.sublist_append_of_sublist_right | apply List.Sublist.cons))) (fun w hp => R_move rfl) rfl ?_
         refine Wh_val (by first | exact hp | (refine hp.drop ?_; repeat (first | exact List.Sublist.refl _ | exact List.nil_sublist _ | refine List.Sublist.cons_cons _ ?_ | apply List.sublist_append_of_sublist_right | apply List.Sublist.cons))) (fun w hp => R_move rfl) rfl ?_
         refine Wh_val (by first | exact hp | (refine hp.drop ?_; repeat (first | exact List.Sublist.refl _ | exact List.nil_sublist _ | refine List.Sublist.cons_cons _ ?_ | apply List.sublist_append_of_sublist_right | apply List.Sublist.cons))) (fun w hp => R_move rfl) rfl ?_
         refine Wh_val (by first | exact hp | (refine hp.drop ?_; repeat (first | exact List.Sublist.refl _ | exact List.nil_sublist _ | refine List.Sublist.cons_cons _ ?_ | apply List.sublist_append_of_sublist_right | apply List.Sublist.cons))) (fun w hp => R_load_own Try.underlying32 rfl sz32 rfl hp (by first | exact List.mem_cons_self | exact .tail _ (.head _) | exact .tail _ (.tail _ (.head _)) | exact .tail _ (.tail _ (.tail _ (.head _))) | exact .tail _ (.tail _ (.tail _ (.tail _ (.head _)))) | exact .tail _ (.tail _ (.tail _ (.tail _ (.tail _ (.head _))))) | exact List.mem_append_right _ (.head _) | exact List.mem_append_right _ (.tail _ (.head _)) | exact List.mem_append_right _ (.tail _ (.tail _ (.head _))) | exact .tail _ (List.mem_append_right _ (.head _)) | exact .tail _ (List.mem_append_right _ (.tail _ (.head _))) | assumption | (repeat (first | exact List.mem_cons_self | apply List.mem_append_right | apply List.mem_cons_of_mem))) rfl rfl) rfl ?_
         refine Wh_val (by first | exact hp | (refine hp.drop ?_; repeat (first | exact List.Sublist.refl _ | exact List.nil_sublist _ | refine List.Sublist.cons_cons _ ?_ | apply List.sublist_append_of_sublist_right | apply List.Sublist.cons))) (fun w hp => R_move rfl) rfl ?_
         refine Wh_val (by first | exact hp | (refine hp.drop ?_; repeat (first | exact List.Sublist.refl _ | exact List.nil_sublist _ | refine List.Sublist.cons_cons _ ?_ | apply List.sublist_append_of_sublist_right | apply List.Sublist.cons))) (fun w hp => R_move rfl) rfl ?_
         refine Wh_val (by first | exact hp | (refine hp.drop ?_; repeat (first | exact List.Sublist.refl _ | exact List.nil_sublist _ | refine List.Sublist.cons_cons _ ?_ | apply List.sublist_append_of_sublist_right | apply List.Sublist.cons))) (fun w hp => R_move rfl) rfl ?_
         refine Wh_step ?_
         refine W_bcall hp rfl ((finish_spec w st1 L1 A1 a1 (h1.keep hp) B1 C1 c1 (g1.keep hp) m mi ke (by omega) (by omega))) rfl ?_
         clear hp; intro v33 G33 w r33 hp
         skip
         refine W_nil ?_
         refine Wh_next (by first | exact hp | (refine hp.drop ?_; repeat (first | exact List.Sublist.refl _ | exact List.nil_sublist _ | refine List.Sublist.cons_cons _ ?_ | apply List.sublist_append_of_sublist_right | apply List.Sublist.cons))) ?_
         refine Wh_step ?_
         refine W_bcall hp rfl ((rfinish_spec w st1 L1 A1 a1 (h1.keep hp) B1 C1 c1 (g1.keep hp) m mi ke (by omega) (by omega))) rfl ?_
         clear hp; intro v38 G38 w r38 hp
         skip
         refine W_nil ?_
         refine Wh_next (by first | exact hp | (refine hp.drop ?_; repeat (first | exact List.Sublist.refl _ | exact List.nil_sublist _ | refine List.Sublist.cons_cons _ ?_ | apply List.sublist_append_of_sublist_right | apply List.Sublist.cons))) ?_
         refine Wh_step ?_
         refine W_acall hp rfl ((rsameT (r33.rdr (fun p hq => hp.own p (by simp [hq]))) (RespR.rdrF r38 (fun p hq => hp.own p (by simp [hq])) (g1.keep hp)) (by rw [List.length_append]; omega) (by omega))) rfl ?_
         clear hp; intro w hp
         refine W_nil ?_
         refine Wh_next (by first | exact hp | (refine hp.drop ?_; repeat (first | exact List.Sublist.refl _ | exact List.nil_sublist _ | refine List.Sublist.cons_cons _ ?_ | apply List.sublist_append_of_sublist_right | apply List.Sublist.cons))) ?_
         refine Wh_val (by first | exact hp | (refine hp.drop ?_; repeat (first | exact List.Sublist.refl _ | exact List.nil_sublist _ | refine List.Sublist.cons_cons _ ?_ | apply List.sublist_append_of_sublist_right | apply List.Sublist.cons))) (fun w hp => R_move rfl) rfl ?_
         first
           | refine Wh_guard_lit_t rfl ?_
           | refine Wh_guard_lit_f rfl ?_
           | refine Wh_guard_lit_u rfl ?_
           | refine Wh_guard_split_d rfl rfl rfl (fun hg5 => ?_) (fun hg5 => ?_)
           | refine Wh_guard_split_n rfl rfl rfl (fun hg5 => ?_) (fun hg5 => ?_)
           | refine Wh_guard_split_nb rfl rfl rfl (fun hg5 => ?_) (fun hg5 => ?_)
           | refine Wh_guard_split rfl rfl rfl (fun hg5 => ?_) (fun hg5 => ?_)
         all_goals try (exfalso; first | omega | (simp only [Bool.false_eq_true, reduceCtorEq] at hg5; done) | (refine absurd hg5 ?_; with_reducible assumption) | (refine absurd ?_ hg5; with_reducible assumption))
         all_goals (
          first
            | (refine Wh_guard_no (by first | exact hp | (refine hp.drop ?_; repeat (first | exact List.Sublist.refl _ | exact List.nil_sublist _ | refine List.Sublist.cons_cons _ ?_ | apply List.sublist_append_of_sublist_right | apply List.Sublist.cons))) rfl rfl rfl ?_)
            | (refine Wh_guard_un (by first | exact hp | (refine hp.drop ?_; repeat (first | exact List.Sublist.refl _ | exact List.nil_sublist _ | refine List.Sublist.cons_cons _ ?_ | apply List.sublist_append_of_sublist_right | apply List.Sublist.cons))) rfl rfl ?_)
            | (refine Wh_guard_yes rfl ?_
               refine Wh_val (by first | exact hp | (refine hp.drop ?_; repeat (first | exact List.Sublist.refl _ | exact List.nil_sublist _ | refine List.Sublist.cons_cons _ ?_ | apply List.sublist_append_of_sublist_right | apply List.Sublist.cons))) (fun w hp => R_load_own Try.underlying32 rfl sz32 rfl hp (by first | exact List.mem_cons_self | exact .tail _ (.head _) | exact .tail _ (.tail _ (.head _)) | exact .tail _ (.tail _ (.tail _ (.head _))) | exact .tail _ (.tail _ (.tail _ (.tail _ (.head _)))) | exact .tail _ (.tail _ (.tail _ (.tail _ (.tail _ (.head _))))) | exact List.mem_append_right _ (.head _) | exact List.mem_append_right _ (.tail _ (.head _)) | exact List.mem_append_right _ (.tail _ (.tail _ (.head _))) | exact .tail _ (List.mem_append_right _ (.head _)) | exact .tail _ (List.mem_append_right _ (.tail _ (.head _))) | assumption | (repeat (first | exact List.mem_cons_self | apply List.mem_append_right | apply List.mem_cons_of_mem))) rfl rfl) rfl ?_)
          first
            | (refine Wh_guard_no (by first | exact hp | (refine hp.drop ?_; repeat (first | exact List.Sublist.refl _ | exact List.nil_sublist _ | refine List.Sublist.cons_cons _ ?_ | apply List.sublist_append_of_sublist_right | apply List.Sublist.cons))) rfl rfl rfl ?_)
            | (refine Wh_guard_un (by first | exact hp | (refine hp.drop ?_; repeat (first | exact List.Sublist.refl _ | exact List.nil_sublist _ | refine List.Sublist.cons_cons _ ?_ | apply List.sublist_append_of_sublist_right | apply List.Sublist.cons))) rfl rfl ?_)
            | (refine Wh_guard_yes rfl ?_
               refine Wh_val (by first | exact hp | (refine hp.drop ?_; repeat (first | exact List.Sublist.refl _ | exact List.nil_sublist _ | refine List.Sublist.cons_cons _ ?_ | apply List.sublist_append_of_sublist_right | apply List.Sublist.cons))) (fun w hp => R_load_own Try.underlying32 rfl sz32 rfl hp (by first | exact List.mem_cons_self | exact .tail _ (.head _) | exact .tail _ (.tail _ (.head _)) | exact .tail _ (.tail _ (.tail _ (.head _))) | exact .tail _ (.tail _ (.tail _ (.tail _ (.head _)))) | exact .tail _ (.tail _ (.tail _ (.tail _ (.tail _ (.head _))))) | exact List.mem_append_right _ (.head _) | exact List.mem_append_right _ (.tail _ (.head _)) | exact List.mem_append_right _ (.tail _ (.tail _ (.head _))) | exact .tail _ (List.mem_append_right _ (.head _)) | exact .tail _ (List.mem_append_right _ (.tail _ (.head _))) | assumption | (repeat (first | exact List.mem_cons_self | apply List.mem_append_right | apply List.mem_cons_of_mem))) rfl rfl) rfl ?_)
          first
            | (refine Wh_guard_no (by first | exact hp | (refine hp.drop ?_; repeat (first | exact List.Sublist.refl _ | exact List.nil_sublist _ | refine List.Sublist.cons_cons _ ?_ | apply List.sublist_append_of_sublist_right | apply List.Sublist.cons))) rfl rfl rfl ?_)
            | (refine Wh_guard_un (by first | exact hp | (refine hp.drop ?_; repeat (first | exact List.Sublist.refl _ | exact List.nil_sublist _ | refine List.Sublist.cons_cons _ ?_ | apply List.sublist_append_of_sublist_right | apply List.Sublist.cons))) rfl rfl ?_)
            | (refine Wh_guard_yes rfl ?_
               refine Wh_val (by first | exact hp | (refine hp.drop ?_; repeat (first | exact List.Sublist.refl _ | exact List.nil_sublist _ | refine List.Sublist.cons_cons _ ?_ | apply List.sublist_append_of_sublist_right | apply List.Sublist.cons))) (fun w hp => R_load_own Try.underlying32 rfl sz32 rfl hp (by first | exact List.mem_cons_self | exact .tail _ (.head _) | exact .tail _ (.tail _ (.head _)) | exact .tail _ (.tail _ (.tail _ (.head _))) | exact .tail _ (.tail _ (.tail _ (.tail _ (.head _)))) | exact .tail _ (.tail _ (.tail _ (.tail _ (.tail _ (.head _))))) | exact List.mem_append_right _ (.head _) | exact List.mem_append_right _ (.tail _ (.head _)) | exact List.mem_append_right _ (.tail _ (.tail _ (.head _))) | exact .tail _ (List.mem_append_right _ (.head _)) | exact .tail _ (List.mem_append_right _ (.tail _ (.head _))) | assumption | (repeat (first | exact List.mem_cons_self | apply List.mem_append_right | apply List.mem_cons_of_mem))) rfl rfl) rfl ?_)
          first
            | (refine Wh_guard_no (by first | exact hp | (refine hp.drop ?_; repeat (first | exact List.Sublist.refl _ | exact List.nil_sublist _ | refine List.Sublist.cons_cons _ ?_ | apply List.sublist_append_of_sublist_right | apply List.Sublist.cons))) rfl rfl rfl ?_)
            | (refine Wh_guard_un (by first | exact hp | (refine hp.drop ?_; repeat (first | exact List.Sublist.refl _ | exact List.nil_sublist _ | refine List.Sublist.cons_cons _ ?_ | apply List.sublist_append_of_sublist_right | apply List.Sublist.cons))) rfl rfl ?_)
            | (refine Wh_guard_yes rfl ?_
               refine Wh_val (by first | exact hp | (refine hp.drop ?_; repeat (first | exact List.Sublist.refl _ | exact List.nil_sublist _ | refine List.Sublist.cons_cons _ ?_ | apply List.sublist_append_of_sublist_right | apply List.Sublist.cons))) (fun w hp => R_load_own Try.underlying32 rfl sz32 rfl hp (by first | exact List.mem_cons_self | exact .tail _ (.head _) | exact .tail _ (.tail _ (.head _)) | exact .tail _ (.tail _ (.tail _ (.head _))) | exact .tail _ (.tail _ (.tail _ (.tail _ (.head _)))) | exact .tail _ (.tail _ (.tail _ (.tail _ (.tail _ (.head _))))) | exact List.mem_append_right _ (.head _) | exact List.mem_append_right _ (.tail _ (.head _)) | exact List.mem_append_right _ (.tail _ (.tail _ (.head _))) | exact .tail _ (List.mem_append_right _ (.head _)) | exact .tail _ (List.mem_append_right _ (.tail _ (.head _))) | assumption | (repeat (first | exact List.mem_cons_self | apply List.mem_append_right | apply List.mem_cons_of_mem))) rfl rfl) rfl ?_)
          refine Wh_step ?_
          first
            | (refine W_guard_no rfl rfl rfl ?_)
            | (refine W_guard_un rfl rfl ?_)
            | (refine W_guard_yes rfl ?_
               first
                 | (refine W_acall hp rfl (((sameR ⟨_, _, _, _, rfl, h1.keep hp, g1.keep hp⟩ ⟨_, _, _, _, rfl, h2.keep hp, g2.keep hp⟩ (by omega) (by omega) (by omega)).eq (congrArg Value.bool (decide_eq_true hE)))) rfl ?_)
                 | (refine W_acall hp rfl (((sameR ⟨_, _, _, _, rfl, h1.keep hp, g1.keep hp⟩ ⟨_, _, _, _, rfl, h2.keep hp, g2.keep hp⟩ (by omega) (by omega) (by omega)).eq (congrArg Value.bool (decide_eq_false hE)))) rfl ?_)
               clear hp; intro w hp)
          refine W_nil ?_
          refine Wh_next (by first | exact hp | (refine hp.drop ?_; repeat (first | exact List.Sublist.refl _ | exact List.nil_sublist _ | refine List.Sublist.cons_cons _ ?_ | apply List.sublist_append_of_sublist_right | apply List.Sublist.cons))) ?_
          refine Wh_step ?_
          first
            | (refine W_guard_no rfl rfl rfl ?_)
            | (refine W_guard_un rfl rfl ?_)
            | (refine W_guard_yes rfl ?_
               first
                 | (refine W_acall hp rfl (((rsameR ⟨_, _, _, _, rfl, h1.keep hp, g1.keep hp⟩ ⟨_, _, _, _, rfl, h2.keep hp, g2.keep hp⟩ (by omega) (by omega) (by omega)).eq (congrArg Value.bool (decide_eq_true hE)))) rfl ?_)
                 | (refine W_acall hp rfl (((rsameR ⟨_, _, _, _, rfl, h1.keep hp, g1.keep hp⟩ ⟨_, _, _, _, rfl, h2.keep hp, g2.keep hp⟩ (by omega) (by omega) (by omega)).eq (congrArg Value.bool (decide_eq_false hE)))) rfl ?_)
               clear hp; intro w hp)
          refine W_nil ?_
          refine Wh_next (by first | exact hp | (refine hp.drop ?_; repeat (first | exact List.Sublist.refl _ | exact List.nil_sublist _ | refine List.Sublist.cons_cons _ ?_ | apply List.sublist_append_of_sublist_right | apply List.Sublist.cons))) ?_
          first
            | (refine Wh_guard_no (by first | exact hp | (refine hp.drop ?_; repeat (first | exact List.Sublist.refl _ | exact List.nil_sublist _ | refine List.Sublist.cons_cons _ ?_ | apply List.sublist_append_of_sublist_right | apply List.Sublist.cons))) rfl rfl rfl ?_)
            | (refine Wh_guard_un (by first | exact hp | (refine hp.drop ?_; repeat (first | exact List.Sublist.refl _ | exact List.nil_sublist _ | refine List.Sublist.cons_cons _ ?_ | apply List.sublist_append_of_sublist_right | apply List.Sublist.cons))) rfl rfl ?_)
            | (refine Wh_guard_yes rfl ?_
               first
                 | (refine Wh_val (by first | exact hp | (refine hp.drop ?_; repeat (first | exact List.Sublist.refl _ | exact List.nil_sublist _ | refine List.Sublist.cons_cons _ ?_ | apply List.sublist_append_of_sublist_right | apply List.Sublist.cons))) (fun w hp => R_beql_t Try.underlying4 rfl rfl rfl) rfl ?_)
                 | (refine Wh_val (by first | exact hp | (refine hp.drop ?_; repeat (first | exact List.Sublist.refl _ | exact List.nil_sublist _ | refine List.Sublist.cons_cons _ ?_ | apply List.sublist_append_of_sublist_right | apply List.Sublist.cons))) (fun w hp => R_beql_f Try.underlying4 rfl rfl rfl) rfl ?_)
                 | (refine Wh_val (by first | exact hp | (refine hp.drop ?_; repeat (first | exact List.Sublist.refl _ | exact List.nil_sublist _ | refine List.Sublist.cons_cons _ ?_ | apply List.sublist_append_of_sublist_right | apply List.Sublist.cons))) (fun w hp => R_beql Try.underlying4 rfl rfl) rfl ?_))
          first
            | (refine Wh_val (by first | exact hp | (refine hp.drop ?_; repeat (first | exact List.Sublist.refl _ | exact List.nil_sublist _ | refine List.Sublist.cons_cons _ ?_ | apply List.sublist_append_of_sublist_right | apply List.Sublist.cons))) (fun w hp => R_pick_t rfl rfl) rfl ?_)
            | (refine Wh_val (by first | exact hp | (refine hp.drop ?_; repeat (first | exact List.Sublist.refl _ | exact List.nil_sublist _ | refine List.Sublist.cons_cons _ ?_ | apply List.sublist_append_of_sublist_right | apply List.Sublist.cons))) (fun w hp => R_pick_f rfl rfl) rfl ?_)
            | (refine Wh_val (by first | exact hp | (refine hp.drop ?_; repeat (first | exact List.Sublist.refl _ | exact List.nil_sublist _ | refine List.Sublist.cons_cons _ ?_ | apply List.sublist_append_of_sublist_right | apply List.Sublist.cons))) (fun w hp => R_pick_b rfl rfl rfl) rfl ?_)
          refine Wh_val (by first | exact hp | (refine hp.drop ?_; repeat (first | exact List.Sublist.refl _ | exact List.nil_sublist _ | refine List.Sublist.cons_cons _ ?_ | apply List.sublist_append_of_sublist_right | apply List.Sublist.cons))) (fun w hp => R_move rfl) rfl ?_
          first
            | refine Wh_guard_lit_t rfl ?_
            | refine Wh_guard_lit_f rfl ?_
            | refine Wh_guard_lit_u rfl ?_
            | refine Wh_guard_split_d rfl rfl rfl (fun hg6 => ?_) (fun hg6 => ?_)
            | refine Wh_guard_split_n rfl rfl rfl (fun hg6 => ?_) (fun hg6 => ?_)
            | refine Wh_guard_split_nb rfl rfl rfl (fun hg6 => ?_) (fun hg6 => ?_)
            | refine Wh_guard_split rfl rfl rfl (fun hg6 => ?_) (fun hg6 => ?_)
          all_goals try (exfalso; first | omega | (simp only [Bool.false_eq_true, reduceCtorEq] at hg6; done) | (refine absurd hg6 ?_; with_reducible assumption) | (refine absurd ?_ hg6; with_reducible assumption))
          all_goals (
           first
             | (refine Wh_guard_no (by first | exact hp | (refine hp.drop ?_; repeat (first | exact List.Sublist.refl _ | exact List.nil_sublist _ | refine List.Sublist.cons_cons _ ?_ | apply List.sublist_append_of_sublist_right | apply List.Sublist.cons))) rfl rfl rfl ?_)
             | (refine Wh_guard_un (by first | exact hp | (refine hp.drop ?_; repeat (first | exact List.Sublist.refl _ | exact List.nil_sublist _ | refine List.Sublist.cons_cons _ ?_ | apply List.sublist_append_of_sublist_right | apply List.Sublist.cons))) rfl rfl ?_)
             | (refine Wh_guard_yes rfl ?_
                refine Wh_val (by first | exact hp | (refine hp.drop ?_; repeat (first | exact List.Sublist.refl _ | exact List.nil_sublist _ | refine List.Sublist.cons_cons _ ?_ | apply List.sublist_append_of_sublist_right | apply List.Sublist.cons))) (fun w hp => R_load_own Try.underlying32 rfl sz32 rfl hp (by first | exact List.mem_cons_self | exact .tail _ (.head _) | exact .tail _ (.tail _ (.head _)) | exact .tail _ (.tail _ (.tail _ (.head _))) | exact .tail _ (.tail _ (.tail _ (.tail _ (.head _)))) | exact .tail _ (.tail _ (.tail _ (.tail _ (.tail _ (.head _))))) | exact List.mem_append_right _ (.head _) | exact List.mem_append_right _ (.tail _ (.head _)) | exact List.mem_append_right _ (.tail _ (.tail _ (.head _))) | exact .tail _ (List.mem_append_right _ (.head _)) | exact .tail _ (List.mem_append_right _ (.tail _ (.head _))) | assumption | (repeat (first | exact List.mem_cons_self | apply List.mem_append_right | apply List.mem_cons_of_mem))) rfl rfl) rfl ?_)
           first
             | (refine Wh_guard_no (by first | exact hp | (refine hp.drop ?_; repeat (first | exact List.Sublist.refl _ | exact List.nil_sublist _ | refine List.Sublist.cons_cons _ ?_ | apply List.sublist_append_of_sublist_right | apply List.Sublist.cons))) rfl rfl rfl ?_)
             | (refine Wh_guard_un (by first | exact hp | (refine hp.drop ?_; repeat (first | exact List.Sublist.refl _ | exact List.nil_sublist _ | refine List.Sublist.cons_cons _ ?_ | apply List.sublist_append_of_sublist_right | apply List.Sublist.cons))) rfl rfl ?_)
             | (refine Wh_guard_yes rfl ?_
                refine Wh_val (by first | exact hp | (refine hp.drop ?_; repeat (first | exact List.Sublist.refl _ | exact List.nil_sublist _ | refine List.Sublist.cons_cons _ ?_ | apply List.sublist_append_of_sublist_right | apply List.Sublist.cons))) (fun w hp => R_load_own Try.underlying32 rfl sz32 rfl hp (by first | exact List.mem_cons_self | exact .tail _ (.head _) | exact .tail _ (.tail _ (.head _)) | exact .tail _ (.tail _ (.tail _ (.head _))) | exact .tail _ (.tail _ (.tail _ (.tail _ (.head _)))) | exact .tail _ (.tail _ (.tail _ (.tail _ (.tail _ (.head _))))) | exact List.mem_append_right _ (.head _) | exact List.mem_append_right _ (.tail _ (.head _)) | exact List.mem_append_right _ (.tail _ (.tail _ (.head _))) | exact .tail _ (List.mem_append_right _ (.head _)) | exact .tail _ (List.mem_append_right _ (.tail _ (.head _))) | assumption | (repeat (first | exact List.mem_cons_self | apply List.mem_append_right | apply List.mem_cons_of_mem))) rfl rfl) rfl ?_)
           refine Wh_step ?_
           first
             | (refine W_guard_no rfl rfl rfl ?_)
             | (refine W_guard_un rfl rfl ?_)
             | (refine W_guard_yes rfl ?_
                refine W_acall hp rfl ((sameT ⟨_, _, _, _, rfl, h2.keep hp, g2.keep hp⟩ ⟨_, _, _, _, rfl, h2.keep hp, g2.keep hp⟩ (by omega) (by omega))) rfl ?_
                clear hp; intro w hp)
           refine W_nil ?_
           refine Wh_next (by first | exact hp | (refine hp.drop ?_; repeat (first | exact List.Sublist.refl _ | exact List.nil_sublist _ | refine List.Sublist.cons_cons _ ?_ | apply List.sublist_append_of_sublist_right | apply List.Sublist.cons))) ?_
           first
             | (refine Wh_val (by first | exact hp | (refine hp.drop ?_; repeat (first | exact List.Sublist.refl _ | exact List.nil_sublist _ | refine List.Sublist.cons_cons _ ?_ | apply List.sublist_append_of_sublist_right | apply List.Sublist.cons))) (fun w hp => R_pick_t rfl rfl) rfl ?_)
             | (refine Wh_val (by first | exact hp | (refine hp.drop ?_; repeat (first | exact List.Sublist.refl _ | exact List.nil_sublist _ | refine List.Sublist.cons_cons _ ?_ | apply List.sublist_append_of_sublist_right | apply List.Sublist.cons))) (fun w hp => R_pick_f rfl rfl) rfl ?_)
             | (refine Wh_val (by first | exact hp | (refine hp.drop ?_; repeat (first | exact List.Sublist.refl _ | exact List.nil_sublist _ | refine List.Sublist.cons_cons _ ?_ | apply List.sublist_append_of_sublist_right | apply List.Sublist.cons))) (fun w hp => R_pick_b rfl rfl rfl) rfl ?_)
           refine Wh_val (by first | exact hp | (refine hp.drop ?_; repeat (first | exact List.Sublist.refl _ | exact List.nil_sublist _ | refine List.Sublist.cons_cons _ ?_ | apply List.sublist_append_of_sublist_right | apply List.Sublist.cons))) (fun w hp => R_assign rfl) rfl ?_
           refine Wh_nil ?_
           refine N_then_k ?_
           refine K_ret ?_
           refine N_done1 (.inr rfl) rfl rfl ?_
           exact ⟨_, rfl, rfl, hp.nil⟩)))))))

end Go.Proofs.Ytnokecddkbkhaaa
