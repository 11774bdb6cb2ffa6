/-
  The fixed examples of package lists, and laws of it, walked.
-/
import Derived.Test.YtjmfjdmpbkdceaaDoorLawP
namespace Go.Proofs.YtjmfjdmpbkdceaaDoor
open Go.Sx Go.RowKit
set_option linter.unusedVariables false
set_option linter.unusedSimpArgs false
set_option maxRecDepth 100000

set_option maxHeartbeats 1000000 in
theorem awake_spec (w0 : World)  : PureAt Tryd.prog 8 [] (.bool true) w0 := by
  refine PureAt.intro go8 Tryd.func8 rfl rfl fun hp => ?_
  refine (fun (hk : ∀ w, Hp w0 [] [] w → K _ _ _ _ _ w) => hk w0 hp) fun w hp => ?_
  refine K_seq ?_
  refine K_region ?_
  refine W_assign rfl rfl ?_
  refine W_nil ?_
  refine N_then_k ?_
  refine K_seq ?_
  refine K_region ?_
  refine W_bslice2 hp Tryd.underlying22 sz9 zv9 rfl rfl  rfl rfl  (fun v0 v1 => [v0, v1]) rfl rfl rfl ?_
  clear hp; intro b6 w hp
  refine W_bcall hp rfl ((tokens_spec w [[97, 44, 32, 44, 98], [67]] _ _ (Rd.own hp (by first | exact List.mem_cons_self | exact .tail _ (.head _) | exact .tail _ (.tail _ (.head _)) | exact .tail _ (.tail _ (.tail _ (.head _))) | exact .tail _ (.tail _ (.tail _ (.tail _ (.head _)))) | exact .tail _ (.tail _ (.tail _ (.tail _ (.tail _ (.head _))))) | exact List.mem_append_right _ (.head _) | exact List.mem_append_right _ (.tail _ (.head _)) | exact List.mem_append_right _ (.tail _ (.tail _ (.head _))) | exact .tail _ (List.mem_append_right _ (.head _)) | exact .tail _ (List.mem_append_right _ (.tail _ (.head _))) | assumption | (repeat (first | exact List.mem_cons_self | apply List.mem_append_right | apply List.mem_cons_of_mem))) (List.prefix_refl _)) (by decide) (by decide))) rfl ?_
  clear hp; intro v7 G7 w r7 hp
  obtain ⟨u7, rfl, o7⟩ := r7
  rw [show tokR (elemsL [[97, 44, 32, 44, 98], [67]]) = ([[97], [98], [99]], true) by decide +kernel] at o7 ⊢
  obtain ⟨A7, c7, rfl⟩ := o7.form
  refine W_move rfl rfl ?_
  refine W_extract rfl rfl rfl ?_
  refine W_extract rfl rfl rfl ?_
  refine W_assign rfl rfl ?_
  refine W_assign rfl rfl ?_
  refine W_nil ?_
  refine N_then_k ?_
  refine K_seq ?_
  refine K_region ?_
  refine W_bslice1 hp Tryd.underlying22 sz9 zv9 rfl  rfl  (fun v0 => [v0]) rfl rfl rfl ?_
  clear hp; intro b11 w hp
  refine W_bcall hp rfl ((tokens_spec w [[97, 32, 98]] _ _ (Rd.own hp (by first | exact List.mem_cons_self | exact .tail _ (.head _) | exact .tail _ (.tail _ (.head _)) | exact .tail _ (.tail _ (.tail _ (.head _))) | exact .tail _ (.tail _ (.tail _ (.tail _ (.head _)))) | exact .tail _ (.tail _ (.tail _ (.tail _ (.tail _ (.head _))))) | exact List.mem_append_right _ (.head _) | exact List.mem_append_right _ (.tail _ (.head _)) | exact List.mem_append_right _ (.tail _ (.tail _ (.head _))) | exact .tail _ (List.mem_append_right _ (.head _)) | exact .tail _ (List.mem_append_right _ (.tail _ (.head _))) | assumption | (repeat (first | exact List.mem_cons_self | apply List.mem_append_right | apply List.mem_cons_of_mem))) (List.prefix_refl _)) (by decide) (by decide))) rfl ?_
  clear hp; intro v12 G12 w r12 hp
  obtain ⟨u12, rfl, o12⟩ := r12
  rw [show tokR (elemsL [[97, 32, 98]]) = ([], false) by decide +kernel] at o12 ⊢
  obtain ⟨A12, c12, rfl⟩ := o12.form
  refine W_move rfl rfl ?_
  refine W_extract rfl rfl rfl ?_
  refine W_extract rfl rfl rfl ?_
  refine W_assign rfl rfl ?_
  refine W_assign rfl rfl ?_
  refine W_nil ?_
  refine N_then_k ?_
  refine K_seq ?_
  refine K_region ?_
  refine W_bslice2 hp Tryd.underlying22 sz9 zv9 rfl rfl  rfl rfl  (fun v0 v1 => [v0, v1]) rfl rfl rfl ?_
  clear hp; intro b15 w hp
  refine W_bcall hp rfl ((elements_spec w [[97, 44, 32, 44, 98], [67]] _ _ (Rd.own hp (by first | exact List.mem_cons_self | exact .tail _ (.head _) | exact .tail _ (.tail _ (.head _)) | exact .tail _ (.tail _ (.tail _ (.head _))) | exact .tail _ (.tail _ (.tail _ (.tail _ (.head _)))) | exact .tail _ (.tail _ (.tail _ (.tail _ (.tail _ (.head _))))) | exact List.mem_append_right _ (.head _) | exact List.mem_append_right _ (.tail _ (.head _)) | exact List.mem_append_right _ (.tail _ (.tail _ (.head _))) | exact .tail _ (List.mem_append_right _ (.head _)) | exact .tail _ (List.mem_append_right _ (.tail _ (.head _))) | assumption | (repeat (first | exact List.mem_cons_self | apply List.mem_append_right | apply List.mem_cons_of_mem))) (List.prefix_refl _)) (by decide) (by decide))) rfl ?_
  clear hp; intro v16 G16 w r16 hp
  rw [show elemsL [[97, 44, 32, 44, 98], [67]] = [[97], [98], [67]] by decide +kernel] at r16
  obtain ⟨A16, c16, rfl⟩ := r16.form
  refine W_bslice3 hp Tryd.underlying22 sz9 zv9 rfl rfl rfl  rfl rfl rfl  (fun v0 v1 v2 => [v0, v1, v2]) rfl rfl rfl ?_
  clear hp; intro b17 w hp
  refine W_acall hp rfl (((texts_spec w [[97], [98], [67]] [[97], [98], [67]] _ _ _ _ (OS.rdm (show OS _ _ _ _ _ _ from r16) (fun p hq => hp.own p (by simp [hq]))) (Rd.own hp (by first | exact List.mem_cons_self | exact .tail _ (.head _) | exact .tail _ (.tail _ (.head _)) | exact .tail _ (.tail _ (.tail _ (.head _))) | exact .tail _ (.tail _ (.tail _ (.tail _ (.head _)))) | exact .tail _ (.tail _ (.tail _ (.tail _ (.tail _ (.head _))))) | exact List.mem_append_right _ (.head _) | exact List.mem_append_right _ (.tail _ (.head _)) | exact List.mem_append_right _ (.tail _ (.tail _ (.head _))) | exact .tail _ (List.mem_append_right _ (.head _)) | exact .tail _ (List.mem_append_right _ (.tail _ (.head _))) | assumption | (repeat (first | exact List.mem_cons_self | apply List.mem_append_right | apply List.mem_cons_of_mem))) (List.prefix_refl _)) (by first | decide | omega)).eq (congrArg Value.bool (decide_eq_true rfl)))) rfl ?_
  clear hp; intro w hp
  refine W_move rfl rfl ?_
  first
    | refine W_guard_lit_t rfl ?_
    | refine W_guard_lit_f rfl ?_
    | refine W_guard_lit_u rfl ?_
    | refine W_guard_split_d rfl rfl rfl (fun hg1 => ?_) (fun hg1 => ?_)
    | refine W_guard_split_n rfl rfl rfl (fun hg1 => ?_) (fun hg1 => ?_)
    | refine W_guard_split_nb rfl rfl rfl (fun hg1 => ?_) (fun hg1 => ?_)
    | refine W_guard_split rfl rfl rfl (fun hg1 => ?_) (fun hg1 => ?_)
  all_goals try (exfalso; first | omega | (simp only [Bool.false_eq_true, reduceCtorEq] at hg1; done) | (refine absurd hg1 ?_; with_reducible assumption) | (refine absurd ?_ hg1; with_reducible assumption))
  all_goals (
   first
     | (iterate 3 refine W_guard_no rfl rfl rfl ?_)
     | (iterate 3 refine W_guard_un rfl rfl ?_)
     | (refine W_guard_yes rfl ?_
        refine W_move rfl rfl ?_
        refine W_guard_yes rfl ?_
        refine W_bslice3 hp Tryd.underlying22 sz9 zv9 rfl rfl rfl  rfl rfl rfl  (fun v0 v1 v2 => [v0, v1, v2]) rfl rfl rfl ?_
        clear hp; intro b21 w hp
        refine W_guard_yes rfl ?_
        refine W_acall hp rfl (((texts_spec w [[97], [98], [99]] [[97], [98], [99]] _ _ _ _ (OS.rdm (show OS _ _ _ _ _ _ from o7) (fun p hq => hp.own p (by simp [hq]))) (Rd.own hp (by first | exact List.mem_cons_self | exact .tail _ (.head _) | exact .tail _ (.tail _ (.head _)) | exact .tail _ (.tail _ (.tail _ (.head _))) | exact .tail _ (.tail _ (.tail _ (.tail _ (.head _)))) | exact .tail _ (.tail _ (.tail _ (.tail _ (.tail _ (.head _))))) | exact List.mem_append_right _ (.head _) | exact List.mem_append_right _ (.tail _ (.head _)) | exact List.mem_append_right _ (.tail _ (.tail _ (.head _))) | exact .tail _ (List.mem_append_right _ (.head _)) | exact .tail _ (List.mem_append_right _ (.tail _ (.head _))) | assumption | (repeat (first | exact List.mem_cons_self | apply List.mem_append_right | apply List.mem_cons_of_mem))) (List.prefix_refl _)) (by first | decide | omega)).eq (congrArg Value.bool (decide_eq_true rfl)))) rfl ?_
        clear hp; intro w hp)
   first
     | (refine W_pick_t rfl rfl rfl ?_)
     | (refine W_pick_f rfl rfl rfl ?_)
     | (refine W_pick_b rfl rfl rfl rfl ?_)
   refine W_move rfl rfl ?_
   first
     | refine W_guard_lit_t rfl ?_
     | refine W_guard_lit_f rfl ?_
     | refine W_guard_lit_u rfl ?_
     | refine W_guard_split_d rfl rfl rfl (fun hg2 => ?_) (fun hg2 => ?_)
     | refine W_guard_split_n rfl rfl rfl (fun hg2 => ?_) (fun hg2 => ?_)
     | refine W_guard_split_nb rfl rfl rfl (fun hg2 => ?_) (fun hg2 => ?_)
     | refine W_guard_split rfl rfl rfl (fun hg2 => ?_) (fun hg2 => ?_)
   all_goals try (exfalso; first | omega | (simp only [Bool.false_eq_true, reduceCtorEq] at hg2; done) | (refine absurd hg2 ?_; with_reducible assumption) | (refine absurd ?_ hg2; with_reducible assumption))
   all_goals (
    first
      | (refine W_guard_no rfl rfl rfl ?_)
      | (refine W_guard_un rfl rfl ?_)
      | (refine W_guard_yes rfl ?_
         refine W_move rfl rfl ?_)
    first
      | (refine W_pick_t rfl rfl rfl ?_)
      | (refine W_pick_f rfl rfl rfl ?_)
      | (refine W_pick_b rfl rfl rfl rfl ?_)
    refine W_move rfl rfl ?_
    first
      | refine W_guard_lit_t rfl ?_
      | refine W_guard_lit_f rfl ?_
      | refine W_guard_lit_u rfl ?_
      | refine W_guard_split_d rfl rfl rfl (fun hg3 => ?_) (fun hg3 => ?_)
      | refine W_guard_split_n rfl rfl rfl (fun hg3 => ?_) (fun hg3 => ?_)
      | refine W_guard_split_nb rfl rfl rfl (fun hg3 => ?_) (fun hg3 => ?_)
      | refine W_guard_split rfl rfl rfl (fun hg3 => ?_) (fun hg3 => ?_)
    all_goals try (exfalso; first | omega | (simp only [Bool.false_eq_true, reduceCtorEq] at hg3; done) | (refine absurd hg3 ?_; with_reducible assumption) | (refine absurd ?_ hg3; with_reducible assumption))
    all_goals (
     first
       | (iterate 2 refine W_guard_no rfl rfl rfl ?_)
       | (iterate 2 refine W_guard_un rfl rfl ?_)
       | (refine W_guard_yes rfl ?_
          refine W_move rfl rfl ?_
          refine W_guard_yes rfl ?_
          first
            | (refine W_not_t rfl rfl ?_)
            | (refine W_not_f rfl rfl ?_)
            | (refine W_not rfl rfl ?_))
     first
       | (refine W_pick_t rfl rfl rfl ?_)
       | (refine W_pick_f rfl rfl rfl ?_)
       | (refine W_pick_b rfl rfl rfl rfl ?_)
     refine W_move rfl rfl ?_
     first
       | refine W_guard_lit_t rfl ?_
       | refine W_guard_lit_f rfl ?_
       | refine W_guard_lit_u rfl ?_
       | refine W_guard_split_d rfl rfl rfl (fun hg4 => ?_) (fun hg4 => ?_)
       | refine W_guard_split_n rfl rfl rfl (fun hg4 => ?_) (fun hg4 => ?_)
       | refine W_guard_split_nb rfl rfl rfl (fun hg4 => ?_) (fun hg4 => ?_)
       | refine W_guard_split rfl rfl rfl (fun hg4 => ?_) (fun hg4 => ?_)
     all_goals try (exfalso; first | omega | (simp only [Bool.false_eq_true, reduceCtorEq] at hg4; done) | (refine absurd hg4 ?_; with_reducible assumption) | (refine absurd ?_ hg4; with_reducible assumption))
     all_goals (
      first
        | (iterate 2 refine W_guard_no rfl rfl rfl ?_)
        | (iterate 2 refine W_guard_un rfl rfl ?_)
        | (refine W_guard_yes rfl ?_
           refine W_bslice1 hp Tryd.underlying22 sz9 zv9 rfl  rfl  (fun v0 => [v0]) rfl rfl rfl ?_
           clear hp; intro b32 w hp
           refine W_guard_yes rfl ?_
           refine W_acall hp rfl (((has_spec w [[97, 44, 32, 99, 108, 111, 115, 101]] _ _ (Rd.own hp (by first | exact List.mem_cons_self | exact .tail _ (.head _) | exact .tail _ (.tail _ (.head _)) | exact .tail _ (.tail _ (.tail _ (.head _))) | exact .tail _ (.tail _ (.tail _ (.tail _ (.head _)))) | exact .tail _ (.tail _ (.tail _ (.tail _ (.tail _ (.head _))))) | exact List.mem_append_right _ (.head _) | exact List.mem_append_right _ (.tail _ (.head _)) | exact List.mem_append_right _ (.tail _ (.tail _ (.head _))) | exact .tail _ (List.mem_append_right _ (.head _)) | exact .tail _ (List.mem_append_right _ (.tail _ (.head _))) | assumption | (repeat (first | exact List.mem_cons_self | apply List.mem_append_right | apply List.mem_cons_of_mem))) (List.prefix_refl _)) (by decide) (by decide) [67, 76, 79, 83, 69] (by decide)).eq (r' := .bool true) (congrArg Value.bool (by decide +kernel)))) rfl ?_
           clear hp; intro w hp)
      first
        | (refine W_pick_t rfl rfl rfl ?_)
        | (refine W_pick_f rfl rfl rfl ?_)
        | (refine W_pick_b rfl rfl rfl rfl ?_)
      refine W_move rfl rfl ?_
      first
        | refine W_guard_lit_t rfl ?_
        | refine W_guard_lit_f rfl ?_
        | refine W_guard_lit_u rfl ?_
        | refine W_guard_split_d rfl rfl rfl (fun hg5 => ?_) (fun hg5 => ?_)
        | refine W_guard_split_n rfl rfl rfl (fun hg5 => ?_) (fun hg5 => ?_)
        | refine W_guard_split_nb rfl rfl rfl (fun hg5 => ?_) (fun hg5 => ?_)
        | refine W_guard_split rfl rfl rfl (fun hg5 => ?_) (fun hg5 => ?_)
      all_goals try (exfalso; first | omega | (simp only [Bool.false_eq_true, reduceCtorEq] at hg5; done) | (refine absurd hg5 ?_; with_reducible assumption) | (refine absurd ?_ hg5; with_reducible assumption))
      all_goals (
       first
         | (iterate 3 refine W_guard_no rfl rfl rfl ?_)
         | (iterate 3 refine W_guard_un rfl rfl ?_)
         | (refine W_guard_yes rfl ?_
            refine W_bslice1 hp Tryd.underlying22 sz9 zv9 rfl  rfl  (fun v0 => [v0]) rfl rfl rfl ?_
            clear hp; intro b36 w hp
            refine W_guard_yes rfl ?_
            refine W_acall hp rfl (((has_spec w [[97]] _ _ (Rd.own hp (by first | exact List.mem_cons_self | exact .tail _ (.head _) | exact .tail _ (.tail _ (.head _)) | exact .tail _ (.tail _ (.tail _ (.head _))) | exact .tail _ (.tail _ (.tail _ (.tail _ (.head _)))) | exact .tail _ (.tail _ (.tail _ (.tail _ (.tail _ (.head _))))) | exact List.mem_append_right _ (.head _) | exact List.mem_append_right _ (.tail _ (.head _)) | exact List.mem_append_right _ (.tail _ (.tail _ (.head _))) | exact .tail _ (List.mem_append_right _ (.head _)) | exact .tail _ (List.mem_append_right _ (.tail _ (.head _))) | assumption | (repeat (first | exact List.mem_cons_self | apply List.mem_append_right | apply List.mem_cons_of_mem))) (List.prefix_refl _)) (by decide) (by decide) [120] (by decide)).eq (r' := .bool false) (congrArg Value.bool (by decide +kernel)))) rfl ?_
            clear hp; intro w hp
            refine W_guard_yes rfl ?_
            first
              | (refine W_not_t rfl rfl ?_)
              | (refine W_not_f rfl rfl ?_)
              | (refine W_not rfl rfl ?_))
       first
         | (refine W_pick_t rfl rfl rfl ?_)
         | (refine W_pick_f rfl rfl rfl ?_)
         | (refine W_pick_b rfl rfl rfl rfl ?_)
       refine W_move rfl rfl ?_
       first
         | refine W_guard_lit_t rfl ?_
         | refine W_guard_lit_f rfl ?_
         | refine W_guard_lit_u rfl ?_
         | refine W_guard_split_d rfl rfl rfl (fun hg6 => ?_) (fun hg6 => ?_)
         | refine W_guard_split_n rfl rfl rfl (fun hg6 => ?_) (fun hg6 => ?_)
         | refine W_guard_split_nb rfl rfl rfl (fun hg6 => ?_) (fun hg6 => ?_)
         | refine W_guard_split rfl rfl rfl (fun hg6 => ?_) (fun hg6 => ?_)
       all_goals try (exfalso; first | omega | (simp only [Bool.false_eq_true, reduceCtorEq] at hg6; done) | (refine absurd hg6 ?_; with_reducible assumption) | (refine absurd ?_ hg6; with_reducible assumption))
       all_goals (
        first
          | (iterate 3 refine W_guard_no rfl rfl rfl ?_)
          | (iterate 3 refine W_guard_un rfl rfl ?_)
          | (refine W_guard_yes rfl ?_
             refine W_bslice2 hp Tryd.underlying22 sz9 zv9 rfl rfl  rfl rfl  (fun v0 v1 => [v0, v1]) rfl rfl rfl ?_
             clear hp; intro b41 w hp
             refine W_guard_yes rfl ?_
             refine W_acall hp rfl (((ljoin_spec w [[97], [98]] _ _ (Rd.own hp (by first | exact List.mem_cons_self | exact .tail _ (.head _) | exact .tail _ (.tail _ (.head _)) | exact .tail _ (.tail _ (.tail _ (.head _))) | exact .tail _ (.tail _ (.tail _ (.tail _ (.head _)))) | exact .tail _ (.tail _ (.tail _ (.tail _ (.tail _ (.head _))))) | exact List.mem_append_right _ (.head _) | exact List.mem_append_right _ (.tail _ (.head _)) | exact List.mem_append_right _ (.tail _ (.tail _ (.head _))) | exact .tail _ (List.mem_append_right _ (.head _)) | exact .tail _ (List.mem_append_right _ (.tail _ (.head _))) | assumption | (repeat (first | exact List.mem_cons_self | apply List.mem_append_right | apply List.mem_cons_of_mem))) (List.prefix_refl _)) (by decide) (by decide) (by decide) (by decide)).eq (r' := .string ⟨([97, 44, 32, 98] : List UInt8).toArray⟩) (congrArg strV (by decide +kernel)))) rfl ?_
             clear hp; intro w hp
             refine W_guard_yes rfl ?_
             first
               | (refine W_seql_t rfl rfl ?_ rfl ?_; (focus (first | rfl | assumption)))
               | (refine W_seql_f rfl rfl ?_ rfl ?_; (focus (first | assumption | decide | exact List.cons_ne_nil _ _)))
               | (refine W_seql rfl rfl rfl ?_))
        first
          | (refine W_pick_t rfl rfl rfl ?_)
          | (refine W_pick_f rfl rfl rfl ?_)
          | (refine W_pick_b rfl rfl rfl rfl ?_)
        refine W_assign rfl rfl ?_
        refine W_nil ?_
        refine N_then_k ?_
        refine K_ret ?_
        refine N_done1 (.inr rfl) rfl rfl ?_
        exact ⟨_, rfl, rfl, hp.nil⟩))))))

set_option maxHeartbeats 2000000 in
theorem ListsMatchReference_walk (w0 : World) (L : List (List UInt8)) (Al : Option Addr) (cl : Nat) (hrl : Rd w0 (.slice Al L.length cl) L.length (L.map strV)) (hcl : L.length ≤ cl) (hnl : L.length ≤ 9223372036854775807) (wd : List UInt8) : PureAt Tryd.prog 3 [.slice Al L.length cl, .string ⟨wd.toArray⟩] (.bool true) w0 := by
  cases hf : fewB L
  all_goals try (obtain ⟨hNl, hMl⟩ := few_of hf; have hKl := all_lens hMl (show 300 ≤ 100000 by decide); have hEl := elemsL_lenm L hMl; have hQl : L.length ≤ 1000 := (by omega))
  all_goals try (rcases tok_two (elemsL L) with ⟨tl, ht⟩ | ht)
  all_goals try (have htl := tok_len (elemsL L); rw [ht] at htl; simp only at htl)
  all_goals (have hz : ([] : List (List UInt8)).length = 0 := rfl)
  all_goals (
   refine PureAt.intro go3 Tryd.func3 rfl rfl fun hp => ?_
   refine (fun (hk : ∀ w, Hp w0 [] [] w → K _ _ _ _ _ w) => hk w0 hp) fun w hp => ?_
   refine K_seq ?_
   refine K_region ?_
   refine W_assign rfl rfl ?_
   refine W_nil ?_
   refine N_then_k ?_
   refine K_seq ?_
   refine K_seq ?_
   refine K_region ?_
   refine W_acall hp rfl ((awake_spec w)) rfl ?_
   clear hp; intro w hp
   first
     | (refine W_not_t rfl rfl ?_)
     | (refine W_not_f rfl rfl ?_)
     | (refine W_not rfl rfl ?_)
   refine W_move rfl rfl ?_
   first
     | refine W_guard_lit_t rfl ?_
     | refine W_guard_lit_f rfl ?_
     | refine W_guard_lit_u rfl ?_
     | refine W_guard_split_d rfl rfl rfl (fun hg1 => ?_) (fun hg1 => ?_)
     | refine W_guard_split_n rfl rfl rfl (fun hg1 => ?_) (fun hg1 => ?_)
     | refine W_guard_split_nb rfl rfl rfl (fun hg1 => ?_) (fun hg1 => ?_)
     | refine W_guard_split rfl rfl rfl (fun hg1 => ?_) (fun hg1 => ?_)
   all_goals try (exfalso; first | omega | (simp only [Bool.false_eq_true, reduceCtorEq] at hg1; done) | (refine absurd hg1 ?_; with_reducible assumption) | (refine absurd ?_ hg1; with_reducible assumption))
   all_goals (
    first
      | (iterate 3 refine W_guard_no rfl rfl rfl ?_)
      | (iterate 3 refine W_guard_un rfl rfl ?_)
      | (refine W_guard_yes rfl ?_
         refine W_move rfl rfl ?_
         refine W_guard_yes rfl ?_
         refine W_acall hp rfl (((few_spec w L Al cl (hrl.keep hp) hnl).eq (congrArg Value.bool hf))) rfl ?_
         clear hp; intro w hp
         refine W_guard_yes rfl ?_
         first
           | (refine W_not_t rfl rfl ?_)
           | (refine W_not_f rfl rfl ?_)
           | (refine W_not rfl rfl ?_))
    first
      | (refine W_pick_t rfl rfl rfl ?_)
      | (refine W_pick_f rfl rfl rfl ?_)
      | (refine W_pick_b rfl rfl rfl rfl ?_)
    refine W_move rfl rfl ?_
    first
      | refine W_guard_lit_t rfl ?_
      | refine W_guard_lit_f rfl ?_
      | refine W_guard_lit_u rfl ?_
      | refine W_guard_split_d rfl rfl rfl (fun hg2 => ?_) (fun hg2 => ?_)
      | refine W_guard_split_n rfl rfl rfl (fun hg2 => ?_) (fun hg2 => ?_)
      | refine W_guard_split_nb rfl rfl rfl (fun hg2 => ?_) (fun hg2 => ?_)
      | refine W_guard_split rfl rfl rfl (fun hg2 => ?_) (fun hg2 => ?_)
    all_goals try (exfalso; first | omega | (simp only [Bool.false_eq_true, reduceCtorEq] at hg2; done) | (refine absurd hg2 ?_; with_reducible assumption) | (refine absurd ?_ hg2; with_reducible assumption))
    all_goals (
     first
       | (iterate 3 refine W_guard_no rfl rfl rfl ?_)
       | (iterate 3 refine W_guard_un rfl rfl ?_)
       | (refine W_guard_yes rfl ?_
          refine W_move rfl rfl ?_
          refine W_guard_yes rfl ?_
          refine W_len_s Tryd.underlying9 rfl rfl ?_
          refine W_guard_yes rfl ?_
          first
            | (refine W_gtr_t rfl rfl ?_ rfl ?_; (focus (omega)))
            | (refine W_gtr_f rfl rfl ?_ rfl ?_; (focus (omega)))
            | (refine W_gtr rfl rfl rfl ?_))
     first
       | (refine W_pick_t rfl rfl rfl ?_)
       | (refine W_pick_f rfl rfl rfl ?_)
       | (refine W_pick_b rfl rfl rfl rfl ?_)
     refine W_nil ?_
     refine N_then_k ?_
     first
       | refine K_cond_d rfl (fun hc3 => ?_) (fun hc3 => ?_)
       | refine K_cond_n rfl (fun hc3 => ?_) (fun hc3 => ?_)
       | refine K_cond_nb rfl (fun hc3 => ?_) (fun hc3 => ?_)
       | refine K_cond_t rfl (fun hc3 => ?_) (fun hc3 => ?_)
     · try (exfalso; first | omega | (simp only [Bool.false_eq_true, reduceCtorEq] at hc3; done) | (refine absurd hc3 ?_; with_reducible assumption) | (refine absurd ?_ hc3; with_reducible assumption))
       all_goals (
        refine K_seq ?_
        refine K_region ?_
        refine W_acall hp rfl ((awake_spec w)) rfl ?_
        clear hp; intro w hp
        refine W_assign rfl rfl ?_
        refine W_nil ?_
        refine N_then_k ?_
        refine K_ret ?_
        refine N_then_ret ?_
        refine N_done1 (.inr rfl) rfl rfl ?_
        first
          | exact ⟨_, rfl, rfl, hp.nil⟩
          | (refine ⟨_, rfl, congrArg Value.bool ?_, hp.nil⟩; simp))
     · try (exfalso; first | omega | (simp only [Bool.false_eq_true, reduceCtorEq] at hc3; done) | (refine absurd hc3 ?_; with_reducible assumption) | (refine absurd ?_ hc3; with_reducible assumption))
       all_goals (
        refine K_skip ?_
        refine N_then_k ?_
        refine K_seq ?_
        refine K_region ?_
        refine W_move rfl rfl ?_
        refine W_bcall hp rfl ((tok_as (tokens_spec w L Al cl (hrl.keep hp) hQl hKl) ht)) rfl ?_
        clear hp; intro v24 G24 w r24 hp
        obtain ⟨u24, rfl, o24⟩ := r24
        obtain ⟨A24, c24, rfl⟩ := o24.form
        refine W_move rfl rfl ?_
        refine W_extract rfl rfl rfl ?_
        refine W_extract rfl rfl rfl ?_
        refine W_assign rfl rfl ?_
        refine W_assign rfl rfl ?_
        refine W_nil ?_
        refine N_then_k ?_
        refine K_seq ?_
        refine K_region ?_
        refine W_move rfl rfl ?_
        refine W_bcall hp rfl ((tok_as (rtokens_spec w L Al cl (hrl.keep hp) hQl hKl) ht)) rfl ?_
        clear hp; intro v29 G29 w r29 hp
        obtain ⟨u29, rfl, o29⟩ := r29
        obtain ⟨A29, c29, rfl⟩ := o29.form
        refine W_move rfl rfl ?_
        refine W_extract rfl rfl rfl ?_
        refine W_extract rfl rfl rfl ?_
        refine W_assign rfl rfl ?_
        refine W_assign rfl rfl ?_
        refine W_nil ?_
        refine N_then_k ?_
        refine K_seq ?_
        refine K_seq ?_
        refine K_region ?_
        refine W_move rfl rfl ?_
        refine W_move rfl rfl ?_
        first
          | (refine W_bneq_f Tryd.underlying4 rfl rfl rfl rfl ?_)
          | (refine W_bneq_t Tryd.underlying4 rfl rfl rfl rfl ?_)
          | (refine W_bneq Tryd.underlying4 rfl rfl rfl ?_)
        refine W_move rfl rfl ?_
        first
          | refine W_guard_lit_t rfl ?_
          | refine W_guard_lit_f rfl ?_
          | refine W_guard_lit_u rfl ?_
          | refine W_guard_split_d rfl rfl rfl (fun hg4 => ?_) (fun hg4 => ?_)
          | refine W_guard_split_n rfl rfl rfl (fun hg4 => ?_) (fun hg4 => ?_)
          | refine W_guard_split_nb rfl rfl rfl (fun hg4 => ?_) (fun hg4 => ?_)
          | refine W_guard_split rfl rfl rfl (fun hg4 => ?_) (fun hg4 => ?_)
        all_goals try (exfalso; first | omega | (simp only [Bool.false_eq_true, reduceCtorEq] at hg4; done) | (refine absurd hg4 ?_; with_reducible assumption) | (refine absurd ?_ hg4; with_reducible assumption))
        all_goals (
         first
           | (iterate 5 refine W_guard_no rfl rfl rfl ?_)
           | (iterate 5 refine W_guard_un rfl rfl ?_)
           | (refine W_guard_yes rfl ?_
              refine W_move rfl rfl ?_
              refine W_guard_yes rfl ?_
              refine W_move rfl rfl ?_
              refine W_guard_yes rfl ?_
              first
                | (refine W_acall hp rfl ((texts_spec w tl tl _ _ _ _ (OS.rdm (show OS _ _ _ _ _ _ from o24) (fun p hq => hp.own p (by simp [hq]))) (OS.rdm (show OS _ _ _ _ _ _ from o29) (fun p hq => hp.own p (by simp [hq]))) (by omega)).eq (congrArg Value.bool (decide_eq_true rfl))) rfl ?_)
                | (refine W_acall hp rfl ((texts_spec w [] [] _ _ _ _ (OS.rdm (show OS _ _ _ _ _ _ from o24) (fun p hq => hp.own p (by simp [hq]))) (OS.rdm (show OS _ _ _ _ _ _ from o29) (fun p hq => hp.own p (by simp [hq]))) (by decide)).eq (congrArg Value.bool (decide_eq_true rfl))) rfl ?_)
              clear hp; intro w hp
              refine W_guard_yes rfl ?_
              first
                | (refine W_not_t rfl rfl ?_)
                | (refine W_not_f rfl rfl ?_)
                | (refine W_not rfl rfl ?_)
              refine W_guard_yes rfl ?_
              refine W_move rfl rfl ?_)
         first
           | refine W_guard_lit_t rfl ?_
           | refine W_guard_lit_f rfl ?_
           | refine W_guard_lit_u rfl ?_
           | refine W_guard_split_d rfl rfl rfl (fun hg5 => ?_) (fun hg5 => ?_)
           | refine W_guard_split_n rfl rfl rfl (fun hg5 => ?_) (fun hg5 => ?_)
           | refine W_guard_split_nb rfl rfl rfl (fun hg5 => ?_) (fun hg5 => ?_)
           | refine W_guard_split rfl rfl rfl (fun hg5 => ?_) (fun hg5 => ?_)
         all_goals try (exfalso; first | omega | (simp only [Bool.false_eq_true, reduceCtorEq] at hg5; done) | (refine absurd hg5 ?_; with_reducible assumption) | (refine absurd ?_ hg5; with_reducible assumption))
         all_goals (
          first
            | (refine W_guard_no rfl rfl rfl ?_)
            | (refine W_guard_un rfl rfl ?_)
            | (refine W_guard_yes rfl ?_
               refine W_move rfl rfl ?_)
          first
            | (refine W_guard_no rfl rfl rfl ?_)
            | (refine W_guard_un rfl rfl ?_)
            | (refine W_guard_yes rfl ?_
               first
                 | (refine W_pick_t rfl rfl rfl ?_)
                 | (refine W_pick_f rfl rfl rfl ?_)
                 | (refine W_pick_b rfl rfl rfl rfl ?_))
          first
            | (refine W_pick_t rfl rfl rfl ?_)
            | (refine W_pick_f rfl rfl rfl ?_)
            | (refine W_pick_b rfl rfl rfl rfl ?_)
          refine W_move rfl rfl ?_
          first
            | refine W_guard_lit_t rfl ?_
            | refine W_guard_lit_f rfl ?_
            | refine W_guard_lit_u rfl ?_
            | refine W_guard_split_d rfl rfl rfl (fun hg6 => ?_) (fun hg6 => ?_)
            | refine W_guard_split_n rfl rfl rfl (fun hg6 => ?_) (fun hg6 => ?_)
            | refine W_guard_split_nb rfl rfl rfl (fun hg6 => ?_) (fun hg6 => ?_)
            | refine W_guard_split rfl rfl rfl (fun hg6 => ?_) (fun hg6 => ?_)
          all_goals try (exfalso; first | omega | (simp only [Bool.false_eq_true, reduceCtorEq] at hg6; done) | (refine absurd hg6 ?_; with_reducible assumption) | (refine absurd ?_ hg6; with_reducible assumption))
          all_goals (
           first
             | (iterate 3 refine W_guard_no rfl rfl rfl ?_)
             | (iterate 3 refine W_guard_un rfl rfl ?_)
             | (refine W_guard_yes rfl ?_
                refine W_move rfl rfl ?_
                refine W_guard_yes rfl ?_
                first
                  | (refine W_not_t rfl rfl ?_)
                  | (refine W_not_f rfl rfl ?_)
                  | (refine W_not rfl rfl ?_)
                refine W_guard_yes rfl ?_
                refine W_move rfl rfl ?_)
           first
             | refine W_guard_lit_t rfl ?_
             | refine W_guard_lit_f rfl ?_
             | refine W_guard_lit_u rfl ?_
             | refine W_guard_split_d rfl rfl rfl (fun hg7 => ?_) (fun hg7 => ?_)
             | refine W_guard_split_n rfl rfl rfl (fun hg7 => ?_) (fun hg7 => ?_)
             | refine W_guard_split_nb rfl rfl rfl (fun hg7 => ?_) (fun hg7 => ?_)
             | refine W_guard_split rfl rfl rfl (fun hg7 => ?_) (fun hg7 => ?_)
           all_goals try (exfalso; first | omega | (simp only [Bool.false_eq_true, reduceCtorEq] at hg7; done) | (refine absurd hg7 ?_; with_reducible assumption) | (refine absurd ?_ hg7; with_reducible assumption))
           all_goals (
            first
              | (iterate 3 refine W_guard_no rfl rfl rfl ?_)
              | (iterate 3 refine W_guard_un rfl rfl ?_)
              | (refine W_guard_yes rfl ?_
                 refine W_move rfl rfl ?_
                 refine W_guard_yes rfl ?_
                 refine W_len_sl Tryd.underlying22 rfl rfl ?_
                 refine W_guard_yes rfl ?_
                 first
                   | (refine W_neq_t rfl rfl ?_ rfl ?_; (focus (omega)))
                   | (refine W_neq_f rfl rfl ?_ rfl ?_; (focus (omega)))
                   | (refine W_neq rfl rfl rfl ?_))
            first
              | (refine W_guard_no rfl rfl rfl ?_)
              | (refine W_guard_un rfl rfl ?_)
              | (refine W_guard_yes rfl ?_
                 first
                   | (refine W_pick_t rfl rfl rfl ?_)
                   | (refine W_pick_f rfl rfl rfl ?_)
                   | (refine W_pick_b rfl rfl rfl rfl ?_))
            first
              | (refine W_pick_t rfl rfl rfl ?_)
              | (refine W_pick_f rfl rfl rfl ?_)
              | (refine W_pick_b rfl rfl rfl rfl ?_)
            refine W_nil ?_
            refine N_then_k ?_
            first
              | refine K_cond_d rfl (fun hc8 => ?_) (fun hc8 => ?_)
              | refine K_cond_n rfl (fun hc8 => ?_) (fun hc8 => ?_)
              | refine K_cond_nb rfl (fun hc8 => ?_) (fun hc8 => ?_)
              | refine K_cond_t rfl (fun hc8 => ?_) (fun hc8 => ?_)
            · try (exfalso; first | omega | (simp only [Bool.false_eq_true, reduceCtorEq] at hc8; done) | (refine absurd hc8 ?_; with_reducible assumption) | (refine absurd ?_ hc8; with_reducible assumption))
              all_goals (
               refine K_seq ?_
               refine K_region ?_
               refine W_assign rfl rfl ?_
               refine W_nil ?_
               refine N_then_k ?_
               refine K_ret ?_
               refine N_then_ret ?_
               refine N_done1 (.inr rfl) rfl rfl ?_
               first
                 | exact ⟨_, rfl, rfl, hp.nil⟩
                 | (refine ⟨_, rfl, congrArg Value.bool ?_, hp.nil⟩; simp))
            · try (exfalso; first | omega | (simp only [Bool.false_eq_true, reduceCtorEq] at hc8; done) | (refine absurd hc8 ?_; with_reducible assumption) | (refine absurd ?_ hc8; with_reducible assumption))
              all_goals (
               refine K_skip ?_
               refine N_then_k ?_
               refine K_seq ?_
               refine K_region ?_
               refine W_move rfl rfl ?_
               refine W_bcall hp rfl ((elements_spec w L Al cl (hrl.keep hp) hQl hKl)) rfl ?_
               clear hp; intro v54 G54 w r54 hp
               obtain ⟨A54, c54, rfl⟩ := r54.form
               refine W_move rfl rfl ?_
               refine W_bcall hp rfl ((relements_spec w L Al cl (hrl.keep hp) hQl hKl)) rfl ?_
               clear hp; intro v56 G56 w r56 hp
               obtain ⟨A56, c56, rfl⟩ := r56.form
               refine W_acall hp rfl (((texts_spec w (elemsL L) (elemsL L) _ _ _ _ (OS.rdm (show OS _ _ _ _ _ _ from r54) (fun p hq => hp.own p (by simp [hq]))) (OS.rdm (show OS _ _ _ _ _ _ from r56) (fun p hq => hp.own p (by simp [hq]))) (by omega)).eq (congrArg Value.bool (decide_eq_true rfl)))) rfl ?_
               clear hp; intro w hp
               refine W_move rfl rfl ?_
               first
                 | refine W_guard_lit_t rfl ?_
                 | refine W_guard_lit_f rfl ?_
                 | refine W_guard_lit_u rfl ?_
                 | refine W_guard_split_d rfl rfl rfl (fun hg9 => ?_) (fun hg9 => ?_)
                 | refine W_guard_split_n rfl rfl rfl (fun hg9 => ?_) (fun hg9 => ?_)
                 | refine W_guard_split_nb rfl rfl rfl (fun hg9 => ?_) (fun hg9 => ?_)
                 | refine W_guard_split rfl rfl rfl (fun hg9 => ?_) (fun hg9 => ?_)
               all_goals try (exfalso; first | omega | (simp only [Bool.false_eq_true, reduceCtorEq] at hg9; done) | (refine absurd hg9 ?_; with_reducible assumption) | (refine absurd ?_ hg9; with_reducible assumption))
               all_goals (
                first
                  | (iterate 7 refine W_guard_no rfl rfl rfl ?_)
                  | (iterate 7 refine W_guard_un rfl rfl ?_)
                  | (refine W_guard_yes rfl ?_
                     refine W_move rfl rfl ?_
                     refine W_guard_yes rfl ?_
                     refine W_move rfl rfl ?_
                     refine W_guard_yes rfl ?_
                     refine W_acall hp rfl ((has_spec w L Al cl (hrl.keep hp) hQl hKl wd (by omega))) rfl ?_
                     clear hp; intro w hp
                     refine W_guard_yes rfl ?_
                     refine W_move rfl rfl ?_
                     refine W_guard_yes rfl ?_
                     refine W_move rfl rfl ?_
                     refine W_guard_yes rfl ?_
                     refine W_acall hp rfl ((rhas_spec w L Al cl (hrl.keep hp) hQl hKl wd (by omega))) rfl ?_
                     clear hp; intro w hp
                     refine W_guard_yes rfl ?_
                     first
                       | (refine W_beql_t Tryd.underlying4 rfl rfl rfl rfl ?_)
                       | (refine W_beql_f Tryd.underlying4 rfl rfl rfl rfl ?_)
                       | (refine W_beql Tryd.underlying4 rfl rfl rfl ?_))
                first
                  | (refine W_pick_t rfl rfl rfl ?_)
                  | (refine W_pick_f rfl rfl rfl ?_)
                  | (refine W_pick_b rfl rfl rfl rfl ?_)
                refine W_assign rfl rfl ?_
                refine W_nil ?_
                refine N_then_k ?_
                refine K_ret ?_
                refine N_done1 (.inr rfl) rfl rfl ?_
                first
                  | exact ⟨_, rfl, rfl, hp.nil⟩
                  | (refine ⟨_, rfl, congrArg Value.bool ?_, hp.nil⟩; simp)))))))))))

set_option maxHeartbeats 2000000 in
theorem ListsJoin_walk (w0 : World) (L : List (List UInt8)) (Al : Option Addr) (cl : Nat) (hrl : Rd w0 (.slice Al L.length cl) L.length (L.map strV)) (hcl : L.length ≤ cl) (hnl : L.length ≤ 9223372036854775807) : PureAt Tryd.prog 4 [.slice Al L.length cl] (.bool true) w0 := by
  cases hf : fewB L
  all_goals try (obtain ⟨hNl, hMl⟩ := few_of hf; have hKl := all_lens hMl (show 300 ≤ 100000 by decide); have hEl := elemsL_lenm L hMl; have hQl : L.length ≤ 1000 := (by omega))
  all_goals try (have hJl := joinB_bound hMl; have hJm : (joinB [44, 32] L).length ≤ 100000 := (by omega))
  all_goals (
   refine PureAt.intro go4 Tryd.func4 rfl rfl fun hp => ?_
   refine (fun (hk : ∀ w, Hp w0 [] [] w → K _ _ _ _ _ w) => hk w0 hp) fun w hp => ?_
   refine K_seq ?_
   refine K_region ?_
   refine W_assign rfl rfl ?_
   refine W_nil ?_
   refine N_then_k ?_
   refine K_seq ?_
   refine K_seq ?_
   refine K_region ?_
   refine W_acall hp rfl ((awake_spec w)) rfl ?_
   clear hp; intro w hp
   first
     | (refine W_not_t rfl rfl ?_)
     | (refine W_not_f rfl rfl ?_)
     | (refine W_not rfl rfl ?_)
   refine W_move rfl rfl ?_
   first
     | refine W_guard_lit_t rfl ?_
     | refine W_guard_lit_f rfl ?_
     | refine W_guard_lit_u rfl ?_
     | refine W_guard_split_d rfl rfl rfl (fun hg1 => ?_) (fun hg1 => ?_)
     | refine W_guard_split_n rfl rfl rfl (fun hg1 => ?_) (fun hg1 => ?_)
     | refine W_guard_split_nb rfl rfl rfl (fun hg1 => ?_) (fun hg1 => ?_)
     | refine W_guard_split rfl rfl rfl (fun hg1 => ?_) (fun hg1 => ?_)
   all_goals try (exfalso; first | omega | (simp only [Bool.false_eq_true, reduceCtorEq] at hg1; done) | (refine absurd hg1 ?_; with_reducible assumption) | (refine absurd ?_ hg1; with_reducible assumption))
   all_goals (
    first
      | (iterate 3 refine W_guard_no rfl rfl rfl ?_)
      | (iterate 3 refine W_guard_un rfl rfl ?_)
      | (refine W_guard_yes rfl ?_
         refine W_move rfl rfl ?_
         refine W_guard_yes rfl ?_
         refine W_acall hp rfl (((few_spec w L Al cl (hrl.keep hp) hnl).eq (congrArg Value.bool hf))) rfl ?_
         clear hp; intro w hp
         refine W_guard_yes rfl ?_
         first
           | (refine W_not_t rfl rfl ?_)
           | (refine W_not_f rfl rfl ?_)
           | (refine W_not rfl rfl ?_))
    first
      | (refine W_pick_t rfl rfl rfl ?_)
      | (refine W_pick_f rfl rfl rfl ?_)
      | (refine W_pick_b rfl rfl rfl rfl ?_)
    refine W_nil ?_
    refine N_then_k ?_
    first
      | refine K_cond_d rfl (fun hc2 => ?_) (fun hc2 => ?_)
      | refine K_cond_n rfl (fun hc2 => ?_) (fun hc2 => ?_)
      | refine K_cond_nb rfl (fun hc2 => ?_) (fun hc2 => ?_)
      | refine K_cond_t rfl (fun hc2 => ?_) (fun hc2 => ?_)
    · try (exfalso; first | omega | (simp only [Bool.false_eq_true, reduceCtorEq] at hc2; done) | (refine absurd hc2 ?_; with_reducible assumption) | (refine absurd ?_ hc2; with_reducible assumption))
      all_goals (
       refine K_seq ?_
       refine K_region ?_
       refine W_acall hp rfl ((awake_spec w)) rfl ?_
       clear hp; intro w hp
       refine W_assign rfl rfl ?_
       refine W_nil ?_
       refine N_then_k ?_
       refine K_ret ?_
       refine N_then_ret ?_
       refine N_done1 (.inr rfl) rfl rfl ?_
       first
         | exact ⟨_, rfl, rfl, hp.nil⟩
         | (have e : decide ((0 : Int) < (L.length : Int)) = decide (0 < L.length) := decide_eq_decide.2 (by omega)
            refine ⟨_, rfl, congrArg Value.bool ?_, hp.nil⟩; simp [e]))
    · try (exfalso; first | omega | (simp only [Bool.false_eq_true, reduceCtorEq] at hc2; done) | (refine absurd hc2 ?_; with_reducible assumption) | (refine absurd ?_ hc2; with_reducible assumption))
      all_goals (
       refine K_skip ?_
       refine N_then_k ?_
       refine K_seq ?_
       refine K_region ?_
       refine W_move rfl rfl ?_
       refine W_acall hp rfl ((ljoin_spec w L Al cl (hrl.keep hp) hQl hKl hcl (by omega))) rfl ?_
       clear hp; intro w hp
       refine W_assign rfl rfl ?_
       refine W_nil ?_
       refine N_then_k ?_
       refine K_seq ?_
       refine K_seq ?_
       refine K_region ?_
       refine W_move rfl rfl ?_
       refine W_move rfl rfl ?_
       refine W_acall hp rfl ((rjoin_spec w L Al cl (hrl.keep hp) hQl hKl (by omega))) rfl ?_
       clear hp; intro w hp
       first
         | (refine W_sneq_f rfl rfl ?_ rfl ?_; (focus (first | rfl | assumption)))
         | (refine W_sneq_t rfl rfl ?_ rfl ?_; (focus (first | assumption | decide | exact List.cons_ne_nil _ _)))
         | (refine W_sneq rfl rfl rfl ?_)
       refine W_nil ?_
       refine N_then_k ?_
       first
         | refine K_cond_d rfl (fun hc3 => ?_) (fun hc3 => ?_)
         | refine K_cond_n rfl (fun hc3 => ?_) (fun hc3 => ?_)
         | refine K_cond_nb rfl (fun hc3 => ?_) (fun hc3 => ?_)
         | refine K_cond_t rfl (fun hc3 => ?_) (fun hc3 => ?_)
       · try (exfalso; first | omega | (simp only [Bool.false_eq_true, reduceCtorEq] at hc3; done) | (refine absurd hc3 ?_; with_reducible assumption) | (refine absurd ?_ hc3; with_reducible assumption))
         all_goals (
          refine K_seq ?_
          refine K_region ?_
          refine W_assign rfl rfl ?_
          refine W_nil ?_
          refine N_then_k ?_
          refine K_ret ?_
          refine N_then_ret ?_
          refine N_done1 (.inr rfl) rfl rfl ?_
          first
            | exact ⟨_, rfl, rfl, hp.nil⟩
            | (have e : decide ((0 : Int) < (L.length : Int)) = decide (0 < L.length) := decide_eq_decide.2 (by omega)
               refine ⟨_, rfl, congrArg Value.bool ?_, hp.nil⟩; simp [e]))
       · try (exfalso; first | omega | (simp only [Bool.false_eq_true, reduceCtorEq] at hc3; done) | (refine absurd hc3 ?_; with_reducible assumption) | (refine absurd ?_ hc3; with_reducible assumption))
         all_goals (
          refine K_skip ?_
          refine N_then_k ?_
          refine K_seq ?_
          refine K_seq ?_
          refine K_region ?_
          refine W_assign rfl rfl ?_
          refine W_nil ?_
          refine N_then_k ?_
          refine K_block ?_
          refine K_loop (σ := Nat) [2, 4, 21, 22, 23, 24, 25, 26, 27, 28, 29, 30, 31, 32]
              (fun k => [(4, .int .i64 k)])
              (fun k w => Hp w0 [] [] w ∧ k ≤ L.length ∧ (L.take k).all isToken = true)
              (fun k => L.length - k) (0) ?_ ?_ ?_
          · repeat' (first | exact sub_lst_nil (sub_nil _) | refine sub_lst rfl ?_ | (refine sub_lst_eq rfl ?_ ?_; · first | rfl | (simp; done) | (congr 1; omega)))
          · exact ⟨hp, Nat.zero_le _, rfl⟩
          · intro k w hJ
            clear hp
            obtain ⟨hp, hle, hall⟩ := hJ
            rcases Nat.lt_or_ge k L.length with hlt | hge
            all_goals (
             refine K_seq ?_
             refine K_seq ?_
             refine K_region ?_
             refine W_move rfl rfl ?_
             refine W_move rfl rfl ?_
             refine W_len_sl Tryd.underlying22 rfl rfl ?_
             first
               | (refine W_lss_t rfl rfl ?_ rfl ?_; (focus (omega)))
               | (refine W_lss_f rfl rfl ?_ rfl ?_; (focus (omega)))
               | (refine W_lss rfl rfl rfl ?_)
             refine W_nil ?_
             refine N_then_k ?_
             first
               | refine K_cond_d rfl (fun hc4 => ?_) (fun hc4 => ?_)
               | refine K_cond_n rfl (fun hc4 => ?_) (fun hc4 => ?_)
               | refine K_cond_nb rfl (fun hc4 => ?_) (fun hc4 => ?_)
               | refine K_cond_t rfl (fun hc4 => ?_) (fun hc4 => ?_)
             · try (exfalso; first | omega | (simp only [Bool.false_eq_true, reduceCtorEq] at hc4; done) | (refine absurd hc4 ?_; with_reducible assumption) | (refine absurd ?_ hc4; with_reducible assumption))
               all_goals (
                refine K_skip ?_
                refine N_then_k ?_
                refine K_seq ?_
                refine K_block ?_
                refine K_seq ?_
                obtain ⟨x, hx⟩ : ∃ x, L[k]? = some x := ⟨_, List.getElem?_eq_getElem hlt⟩
                have hxs := strV_at hx
                obtain ⟨bb, oo, rfl⟩ := hrl.some (by intro e; rw [e] at hxs; simp at hxs)
                have hcx := hrl.cell hxs
                have hxl := hMl x (List.mem_of_getElem? hx)
                refine K_region ?_
                refine W_move rfl rfl ?_
                refine W_move rfl rfl ?_
                refine W_indexAddr_sl Tryd.underlying22 sz9 rfl rfl ?_ ?_ rfl ?_
                (focus (omega))
                (focus (first | omega | (simp; done) | (simp; omega)))
                refine W_load_s Tryd.underlying9 rfl rfl (by exact hp.cell_old0 (by simpa using hcx)) rfl ?_
                refine W_pcall hp rfl (risToken_spec x (by omega)) rfl ?_
                clear hp; intro w hp
                first
                  | (refine W_not_t rfl rfl ?_)
                  | (refine W_not_f rfl rfl ?_)
                  | (refine W_not rfl rfl ?_)
                refine W_nil ?_
                refine N_then_k ?_
                first
                  | refine K_cond_d rfl (fun hc5 => ?_) (fun hc5 => ?_)
                  | refine K_cond_n rfl (fun hc5 => ?_) (fun hc5 => ?_)
                  | refine K_cond_nb rfl (fun hc5 => ?_) (fun hc5 => ?_)
                  | refine K_cond_t rfl (fun hc5 => ?_) (fun hc5 => ?_)
                · try (exfalso; first | omega | (simp only [Bool.false_eq_true, reduceCtorEq] at hc5; done) | (refine absurd hc5 ?_; with_reducible assumption) | (refine absurd ?_ hc5; with_reducible assumption))
                  all_goals (
                   refine K_seq ?_
                   refine K_region ?_
                   refine W_assign rfl rfl ?_
                   refine W_nil ?_
                   refine N_then_k ?_
                   refine K_ret ?_
                   refine N_block_ret ?_
                   refine N_then_ret ?_
                   refine N_then_ret ?_
                   refine N_block_ret ?_
                   refine N_then_ret ?_
                   refine N_done1 (.inr rfl) rfl rfl ?_
                   first
                     | exact ⟨_, rfl, rfl, hp.nil⟩
                     | (have e : decide ((0 : Int) < (L.length : Int)) = decide (0 < L.length) := decide_eq_decide.2 (by omega)
                        refine ⟨_, rfl, congrArg Value.bool ?_, hp.nil⟩; simp [e]))
                · try (exfalso; first | omega | (simp only [Bool.false_eq_true, reduceCtorEq] at hc5; done) | (refine absurd hc5 ?_; with_reducible assumption) | (refine absurd ?_ hc5; with_reducible assumption))
                  all_goals (
                   refine K_skip ?_
                   refine N_block_normal ?_
                   refine N_then_k ?_
                   refine K_region ?_
                   refine W_move rfl rfl ?_
                   first
                     | (refine W_add rfl rfl (wr_i64 ?_) rfl ?_; (focus (omega)))
                     | (refine W_add rfl rfl rfl rfl ?_)
                   refine W_assign rfl rfl ?_
                   refine W_nil ?_
                   refine N_again (k + 1) (sub_end ?_ ?_) ?_ ?_
                   · repeat' (first | exact sub_lst_nil (sub_nil _) | refine sub_lst rfl ?_ | (refine sub_lst_eq rfl ?_ ?_; · first | rfl | (simp; done) | (congr 1; omega)))
                   · repeat' (first | exact sub_refl _ | exact sub_strip _ _ | refine sub_s_cons rfl ?_ | refine sub_s_lst rfl ?_ | refine sub_s_strip rfl ?_)
                   · exact ⟨hp, hlt, all_next hx (by assumption) hall⟩
                   · omega))
             · try (exfalso; first | omega | (simp only [Bool.false_eq_true, reduceCtorEq] at hc4; done) | (refine absurd hc4 ?_; with_reducible assumption) | (refine absurd ?_ hc4; with_reducible assumption))
               all_goals (
                refine K_exit ?_
                refine N_then_exit ?_
                refine N_then_exit ?_
                refine N_block_exit ?_
                refine N_then_k ?_
                refine K_seq ?_
                refine K_region ?_
                rw [List.take_of_length_le hge] at hall
                have hte : tokR (elemsL [joinB [44, 32] L]) = (L.map lower, decide (0 < L.length)) := by rw [join_elems, elemsL_tokens hall, tok_tokens hall]
                have hee : elemsL [joinB [44, 32] L] = L := by rw [join_elems, elemsL_tokens hall]
                refine W_move rfl rfl ?_
                refine W_bslice1 hp Tryd.underlying22 sz9 zv9 rfl  rfl  (fun v0 => [v0]) rfl rfl rfl ?_
                clear hp; intro b35 w hp
                refine W_bcall hp rfl ((tok_as (tokens_spec w [joinB [44, 32] L] _ _ (Rd.own hp (by first | exact List.mem_cons_self | exact .tail _ (.head _) | exact .tail _ (.tail _ (.head _)) | exact .tail _ (.tail _ (.tail _ (.head _))) | exact .tail _ (.tail _ (.tail _ (.tail _ (.head _)))) | exact .tail _ (.tail _ (.tail _ (.tail _ (.tail _ (.head _))))) | exact List.mem_append_right _ (.head _) | exact List.mem_append_right _ (.tail _ (.head _)) | exact List.mem_append_right _ (.tail _ (.tail _ (.head _))) | exact .tail _ (List.mem_append_right _ (.head _)) | exact .tail _ (List.mem_append_right _ (.tail _ (.head _))) | assumption | (repeat (first | exact List.mem_cons_self | apply List.mem_append_right | apply List.mem_cons_of_mem))) (List.prefix_refl _)) (by simp) (by intro v hv; rw [List.mem_singleton.1 hv]; omega)) hte)) rfl ?_
                clear hp; intro v36 G36 w r36 hp
                obtain ⟨u36, rfl, o36⟩ := r36
                obtain ⟨A36, c36, rfl⟩ := o36.form
                refine W_move rfl rfl ?_
                refine W_extract rfl rfl rfl ?_
                refine W_extract rfl rfl rfl ?_
                refine W_assign rfl rfl ?_
                refine W_assign rfl rfl ?_
                refine W_nil ?_
                refine N_then_k ?_
                refine K_seq ?_
                refine K_region ?_
                refine W_move rfl rfl ?_
                refine W_bslice1 hp Tryd.underlying22 sz9 zv9 rfl  rfl  (fun v0 => [v0]) rfl rfl rfl ?_
                clear hp; intro b40 w hp
                refine W_bcall hp rfl ((elements_spec w [joinB [44, 32] L] _ _ (Rd.own hp (by first | exact List.mem_cons_self | exact .tail _ (.head _) | exact .tail _ (.tail _ (.head _)) | exact .tail _ (.tail _ (.tail _ (.head _))) | exact .tail _ (.tail _ (.tail _ (.tail _ (.head _)))) | exact .tail _ (.tail _ (.tail _ (.tail _ (.tail _ (.head _))))) | exact List.mem_append_right _ (.head _) | exact List.mem_append_right _ (.tail _ (.head _)) | exact List.mem_append_right _ (.tail _ (.tail _ (.head _))) | exact .tail _ (List.mem_append_right _ (.head _)) | exact .tail _ (List.mem_append_right _ (.tail _ (.head _))) | assumption | (repeat (first | exact List.mem_cons_self | apply List.mem_append_right | apply List.mem_cons_of_mem))) (List.prefix_refl _)) (by simp) (by intro v hv; rw [List.mem_singleton.1 hv]; omega))) rfl ?_
                clear hp; intro v41 G41 w r41 hp
                rw [hee] at r41
                obtain ⟨A41, c41, rfl⟩ := r41.form
                refine W_move rfl rfl ?_
                refine W_acall hp rfl (((texts_spec w L L _ _ _ _ (OS.rdm (show OS _ _ _ _ _ _ from r41) (fun p hq => hp.own p (by simp [hq]))) (hrl.keep hp) (by omega)).eq (congrArg Value.bool (decide_eq_true rfl)))) rfl ?_
                clear hp; intro w hp
                refine W_move rfl rfl ?_
                first
                  | refine W_guard_lit_t rfl ?_
                  | refine W_guard_lit_f rfl ?_
                  | refine W_guard_lit_u rfl ?_
                  | refine W_guard_split_d rfl rfl rfl (fun hg6 => ?_) (fun hg6 => ?_)
                  | refine W_guard_split_n rfl rfl rfl (fun hg6 => ?_) (fun hg6 => ?_)
                  | refine W_guard_split_nb rfl rfl rfl (fun hg6 => ?_) (fun hg6 => ?_)
                  | refine W_guard_split rfl rfl rfl (fun hg6 => ?_) (fun hg6 => ?_)
                all_goals try (exfalso; first | omega | (simp only [Bool.false_eq_true, reduceCtorEq] at hg6; done) | (refine absurd hg6 ?_; with_reducible assumption) | (refine absurd ?_ hg6; with_reducible assumption))
                all_goals (
                 first
                   | (iterate 5 refine W_guard_no rfl rfl rfl ?_)
                   | (iterate 5 refine W_guard_un rfl rfl ?_)
                   | (refine W_guard_yes rfl ?_
                      refine W_move rfl rfl ?_
                      refine W_guard_yes rfl ?_
                      refine W_move rfl rfl ?_
                      refine W_guard_yes rfl ?_
                      refine W_len_sl Tryd.underlying22 rfl rfl ?_
                      refine W_guard_yes rfl ?_
                      first
                        | (refine W_gtr_t rfl rfl ?_ rfl ?_; (focus (omega)))
                        | (refine W_gtr_f rfl rfl ?_ rfl ?_; (focus (omega)))
                        | (refine W_gtr rfl rfl rfl ?_)
                      refine W_guard_yes rfl ?_
                      first
                        | (refine W_beql_t Tryd.underlying4 rfl rfl rfl rfl ?_)
                        | (refine W_beql_f Tryd.underlying4 rfl rfl rfl rfl ?_)
                        | (refine W_beql Tryd.underlying4 rfl rfl rfl ?_))
                 first
                   | (refine W_pick_t rfl rfl rfl ?_)
                   | (refine W_pick_f rfl rfl rfl ?_)
                   | (refine W_pick_b rfl rfl rfl rfl ?_)
                 refine W_assign rfl rfl ?_
                 refine W_nil ?_
                 refine N_then_k ?_
                 refine K_ret ?_
                 refine N_done1 (.inr rfl) rfl rfl ?_
                 first
                   | exact ⟨_, rfl, rfl, hp.nil⟩
                   | (have e : decide ((0 : Int) < (L.length : Int)) = decide (0 < L.length) := decide_eq_decide.2 (by omega)
                      refine ⟨_, rfl, congrArg Value.bool ?_, hp.nil⟩; simp [e]))))))))

end Go.Proofs.YtjmfjdmpbkdceaaDoor
