/-
  The fixed examples of package octet, and the laws, walked.
-/
import Derived.Test.YtjkbceclfmjmfaaOctRef
namespace Go.Proofs.Ytjkbceclfmjmfaa
open Go.Sx Go.RowKit
set_option linter.unusedVariables false
set_option linter.unusedSimpArgs false
set_option maxRecDepth 100000

theorem awake_spec  : PureF Try.prog 8 [] (.bool true) := by
  refine PureF.intro go8 Try.func8 rfl rfl fun w0 hp => ?_
  refine K_seq ?_
  refine K_region ?_
  refine W_assign rfl rfl ?_
  refine W_nil ?_
  refine N_then_k ?_
  refine K_seq ?_
  refine K_region ?_
  refine W_pcall hp rfl ((hex_spec 102).eq (r' := .tuple #[.int .i64 15, .bool true]) (by kernel_rfl)) rfl ?_
  clear hp; intro w hp
  refine W_move rfl rfl ?_
  refine W_extract rfl rfl rfl ?_
  refine W_extract rfl rfl rfl ?_
  refine W_assign rfl rfl ?_
  refine W_assign rfl rfl ?_
  refine W_nil ?_
  refine N_then_k ?_
  refine K_seq ?_
  refine K_region ?_
  refine W_pcall hp rfl ((hex_spec 103).eq (r' := .tuple #[.int .i64 0, .bool false]) (by kernel_rfl)) rfl ?_
  clear hp; intro w hp
  refine W_move rfl rfl ?_
  refine W_extract rfl rfl rfl ?_
  refine W_extract rfl rfl rfl ?_
  refine W_assign rfl rfl ?_
  refine W_assign rfl rfl ?_
  refine W_nil ?_
  refine N_then_k ?_
  refine K_seq ?_
  refine K_region ?_
  refine W_pcall hp rfl ((letter_spec 97).eq (r' := .bool true) (congrArg Value.bool (by decide +kernel))) rfl ?_
  clear hp; intro w hp
  refine W_move rfl rfl ?_
  first
    | refine W_guard_lit_t rfl ?_
    | refine W_guard_lit_f rfl ?_
    | refine W_guard_lit_u rfl ?_
    | refine W_guard_split_d rfl rfl rfl (fun hg1 => ?_) (fun hg1 => ?_)
    | refine W_guard_split_n rfl rfl rfl (fun hg1 => ?_) (fun hg1 => ?_)
    | refine W_guard_split_nb rfl rfl rfl (fun hg1 => ?_) (fun hg1 => ?_)
    | refine W_guard_split rfl rfl rfl (fun hg1 => ?_) (fun hg1 => ?_)
  all_goals try (exfalso; first | contradiction | omega)
  all_goals (
   first
     | (refine W_guard_no rfl rfl rfl ?_)
     | (refine W_guard_un rfl rfl ?_)
     | (refine W_guard_yes rfl ?_
        refine W_pcall hp rfl ((digit_spec 53).eq (r' := .bool true) (congrArg Value.bool (by decide +kernel))) rfl ?_
        clear hp; intro w hp)
   first
     | (refine W_pick_t rfl rfl rfl ?_)
     | (refine W_pick_f rfl rfl rfl ?_)
     | (refine W_pick_b rfl rfl rfl rfl ?_)
   refine W_move rfl rfl ?_
   first
     | refine W_guard_lit_t rfl ?_
     | refine W_guard_lit_f rfl ?_
     | refine W_guard_lit_u rfl ?_
     | refine W_guard_split_d rfl rfl rfl (fun hg2 => ?_) (fun hg2 => ?_)
     | refine W_guard_split_n rfl rfl rfl (fun hg2 => ?_) (fun hg2 => ?_)
     | refine W_guard_split_nb rfl rfl rfl (fun hg2 => ?_) (fun hg2 => ?_)
     | refine W_guard_split rfl rfl rfl (fun hg2 => ?_) (fun hg2 => ?_)
   all_goals try (exfalso; first | contradiction | omega)
   all_goals (
    first
      | (refine W_guard_no rfl rfl rfl ?_)
      | (refine W_guard_un rfl rfl ?_)
      | (refine W_guard_yes rfl ?_
         refine W_pcall hp rfl ((token_spec 33).eq (r' := .bool true) (congrArg Value.bool (by decide +kernel))) rfl ?_
         clear hp; intro w hp)
    first
      | (refine W_pick_t rfl rfl rfl ?_)
      | (refine W_pick_f rfl rfl rfl ?_)
      | (refine W_pick_b rfl rfl rfl rfl ?_)
    refine W_move rfl rfl ?_
    first
      | refine W_guard_lit_t rfl ?_
      | refine W_guard_lit_f rfl ?_
      | refine W_guard_lit_u rfl ?_
      | refine W_guard_split_d rfl rfl rfl (fun hg3 => ?_) (fun hg3 => ?_)
      | refine W_guard_split_n rfl rfl rfl (fun hg3 => ?_) (fun hg3 => ?_)
      | refine W_guard_split_nb rfl rfl rfl (fun hg3 => ?_) (fun hg3 => ?_)
      | refine W_guard_split rfl rfl rfl (fun hg3 => ?_) (fun hg3 => ?_)
    all_goals try (exfalso; first | contradiction | omega)
    all_goals (
     first
       | (iterate 2 refine W_guard_no rfl rfl rfl ?_)
       | (iterate 2 refine W_guard_un rfl rfl ?_)
       | (refine W_guard_yes rfl ?_
          refine W_pcall hp rfl ((token_spec 40).eq (r' := .bool false) (congrArg Value.bool (by decide +kernel))) rfl ?_
          clear hp; intro w hp
          refine W_guard_yes rfl ?_
          first
            | (refine W_not_t rfl rfl ?_)
            | (refine W_not_f rfl rfl ?_)
            | (refine W_not rfl rfl ?_))
     first
       | (refine W_pick_t rfl rfl rfl ?_)
       | (refine W_pick_f rfl rfl rfl ?_)
       | (refine W_pick_b rfl rfl rfl rfl ?_)
     refine W_move rfl rfl ?_
     first
       | refine W_guard_lit_t rfl ?_
       | refine W_guard_lit_f rfl ?_
       | refine W_guard_lit_u rfl ?_
       | refine W_guard_split_d rfl rfl rfl (fun hg4 => ?_) (fun hg4 => ?_)
       | refine W_guard_split_n rfl rfl rfl (fun hg4 => ?_) (fun hg4 => ?_)
       | refine W_guard_split_nb rfl rfl rfl (fun hg4 => ?_) (fun hg4 => ?_)
       | refine W_guard_split rfl rfl rfl (fun hg4 => ?_) (fun hg4 => ?_)
     all_goals try (exfalso; first | contradiction | omega)
     all_goals (
      first
        | (refine W_guard_no rfl rfl rfl ?_)
        | (refine W_guard_un rfl rfl ?_)
        | (refine W_guard_yes rfl ?_
           refine W_pcall hp rfl ((unreserved_spec 126).eq (r' := .bool true) (congrArg Value.bool (by decide +kernel))) rfl ?_
           clear hp; intro w hp)
      first
        | (refine W_pick_t rfl rfl rfl ?_)
        | (refine W_pick_f rfl rfl rfl ?_)
        | (refine W_pick_b rfl rfl rfl rfl ?_)
      refine W_move rfl rfl ?_
      first
        | refine W_guard_lit_t rfl ?_
        | refine W_guard_lit_f rfl ?_
        | refine W_guard_lit_u rfl ?_
        | refine W_guard_split_d rfl rfl rfl (fun hg5 => ?_) (fun hg5 => ?_)
        | refine W_guard_split_n rfl rfl rfl (fun hg5 => ?_) (fun hg5 => ?_)
        | refine W_guard_split_nb rfl rfl rfl (fun hg5 => ?_) (fun hg5 => ?_)
        | refine W_guard_split rfl rfl rfl (fun hg5 => ?_) (fun hg5 => ?_)
      all_goals try (exfalso; first | contradiction | omega)
      all_goals (
       first
         | (refine W_guard_no rfl rfl rfl ?_)
         | (refine W_guard_un rfl rfl ?_)
         | (refine W_guard_yes rfl ?_
            refine W_pcall hp rfl ((path_spec 64).eq (r' := .bool true) (congrArg Value.bool (by decide +kernel))) rfl ?_
            clear hp; intro w hp)
       first
         | (refine W_pick_t rfl rfl rfl ?_)
         | (refine W_pick_f rfl rfl rfl ?_)
         | (refine W_pick_b rfl rfl rfl rfl ?_)
       refine W_move rfl rfl ?_
       first
         | refine W_guard_lit_t rfl ?_
         | refine W_guard_lit_f rfl ?_
         | refine W_guard_lit_u rfl ?_
         | refine W_guard_split_d rfl rfl rfl (fun hg6 => ?_) (fun hg6 => ?_)
         | refine W_guard_split_n rfl rfl rfl (fun hg6 => ?_) (fun hg6 => ?_)
         | refine W_guard_split_nb rfl rfl rfl (fun hg6 => ?_) (fun hg6 => ?_)
         | refine W_guard_split rfl rfl rfl (fun hg6 => ?_) (fun hg6 => ?_)
       all_goals try (exfalso; first | contradiction | omega)
       all_goals (
        first
          | (iterate 2 refine W_guard_no rfl rfl rfl ?_)
          | (iterate 2 refine W_guard_un rfl rfl ?_)
          | (refine W_guard_yes rfl ?_
             refine W_pcall hp rfl ((path_spec 47).eq (r' := .bool false) (congrArg Value.bool (by decide +kernel))) rfl ?_
             clear hp; intro w hp
             refine W_guard_yes rfl ?_
             first
               | (refine W_not_t rfl rfl ?_)
               | (refine W_not_f rfl rfl ?_)
               | (refine W_not rfl rfl ?_))
        first
          | (refine W_pick_t rfl rfl rfl ?_)
          | (refine W_pick_f rfl rfl rfl ?_)
          | (refine W_pick_b rfl rfl rfl rfl ?_)
        refine W_move rfl rfl ?_
        first
          | refine W_guard_lit_t rfl ?_
          | refine W_guard_lit_f rfl ?_
          | refine W_guard_lit_u rfl ?_
          | refine W_guard_split_d rfl rfl rfl (fun hg7 => ?_) (fun hg7 => ?_)
          | refine W_guard_split_n rfl rfl rfl (fun hg7 => ?_) (fun hg7 => ?_)
          | refine W_guard_split_nb rfl rfl rfl (fun hg7 => ?_) (fun hg7 => ?_)
          | refine W_guard_split rfl rfl rfl (fun hg7 => ?_) (fun hg7 => ?_)
        all_goals try (exfalso; first | contradiction | omega)
        all_goals (
         first
           | (refine W_guard_no rfl rfl rfl ?_)
           | (refine W_guard_un rfl rfl ?_)
           | (refine W_guard_yes rfl ?_
              refine W_pcall hp rfl ((field_spec 9).eq (r' := .bool true) (congrArg Value.bool (by decide +kernel))) rfl ?_
              clear hp; intro w hp)
         first
           | (refine W_pick_t rfl rfl rfl ?_)
           | (refine W_pick_f rfl rfl rfl ?_)
           | (refine W_pick_b rfl rfl rfl rfl ?_)
         refine W_move rfl rfl ?_
         first
           | refine W_guard_lit_t rfl ?_
           | refine W_guard_lit_f rfl ?_
           | refine W_guard_lit_u rfl ?_
           | refine W_guard_split_d rfl rfl rfl (fun hg8 => ?_) (fun hg8 => ?_)
           | refine W_guard_split_n rfl rfl rfl (fun hg8 => ?_) (fun hg8 => ?_)
           | refine W_guard_split_nb rfl rfl rfl (fun hg8 => ?_) (fun hg8 => ?_)
           | refine W_guard_split rfl rfl rfl (fun hg8 => ?_) (fun hg8 => ?_)
         all_goals try (exfalso; first | contradiction | omega)
         all_goals (
          first
            | (iterate 2 refine W_guard_no rfl rfl rfl ?_)
            | (iterate 2 refine W_guard_un rfl rfl ?_)
            | (refine W_guard_yes rfl ?_
               refine W_pcall hp rfl ((field_spec 10).eq (r' := .bool false) (congrArg Value.bool (by decide +kernel))) rfl ?_
               clear hp; intro w hp
               refine W_guard_yes rfl ?_
               first
                 | (refine W_not_t rfl rfl ?_)
                 | (refine W_not_f rfl rfl ?_)
                 | (refine W_not rfl rfl ?_))
          first
            | (refine W_pick_t rfl rfl rfl ?_)
            | (refine W_pick_f rfl rfl rfl ?_)
            | (refine W_pick_b rfl rfl rfl rfl ?_)
          refine W_move rfl rfl ?_
          first
            | refine W_guard_lit_t rfl ?_
            | refine W_guard_lit_f rfl ?_
            | refine W_guard_lit_u rfl ?_
            | refine W_guard_split_d rfl rfl rfl (fun hg9 => ?_) (fun hg9 => ?_)
            | refine W_guard_split_n rfl rfl rfl (fun hg9 => ?_) (fun hg9 => ?_)
            | refine W_guard_split_nb rfl rfl rfl (fun hg9 => ?_) (fun hg9 => ?_)
            | refine W_guard_split rfl rfl rfl (fun hg9 => ?_) (fun hg9 => ?_)
          all_goals try (exfalso; first | contradiction | omega)
          all_goals (
           first
             | (iterate 2 refine W_guard_no rfl rfl rfl ?_)
             | (iterate 2 refine W_guard_un rfl rfl ?_)
             | (refine W_guard_yes rfl ?_
                refine W_move rfl rfl ?_
                refine W_guard_yes rfl ?_
                first
                  | (refine W_eql_t rfl rfl ?_ rfl ?_; (focus (omega)))
                  | (refine W_eql_f rfl rfl ?_ rfl ?_; (focus (omega)))
                  | (refine W_eql rfl rfl rfl ?_))
           first
             | (refine W_pick_t rfl rfl rfl ?_)
             | (refine W_pick_f rfl rfl rfl ?_)
             | (refine W_pick_b rfl rfl rfl rfl ?_)
           refine W_move rfl rfl ?_
           first
             | refine W_guard_lit_t rfl ?_
             | refine W_guard_lit_f rfl ?_
             | refine W_guard_lit_u rfl ?_
             | refine W_guard_split_d rfl rfl rfl (fun hg10 => ?_) (fun hg10 => ?_)
             | refine W_guard_split_n rfl rfl rfl (fun hg10 => ?_) (fun hg10 => ?_)
             | refine W_guard_split_nb rfl rfl rfl (fun hg10 => ?_) (fun hg10 => ?_)
             | refine W_guard_split rfl rfl rfl (fun hg10 => ?_) (fun hg10 => ?_)
           all_goals try (exfalso; first | contradiction | omega)
           all_goals (
            first
              | (refine W_guard_no rfl rfl rfl ?_)
              | (refine W_guard_un rfl rfl ?_)
              | (refine W_guard_yes rfl ?_
                 refine W_move rfl rfl ?_)
            first
              | (refine W_pick_t rfl rfl rfl ?_)
              | (refine W_pick_f rfl rfl rfl ?_)
              | (refine W_pick_b rfl rfl rfl rfl ?_)
            refine W_move rfl rfl ?_
            first
              | refine W_guard_lit_t rfl ?_
              | refine W_guard_lit_f rfl ?_
              | refine W_guard_lit_u rfl ?_
              | refine W_guard_split_d rfl rfl rfl (fun hg11 => ?_) (fun hg11 => ?_)
              | refine W_guard_split_n rfl rfl rfl (fun hg11 => ?_) (fun hg11 => ?_)
              | refine W_guard_split_nb rfl rfl rfl (fun hg11 => ?_) (fun hg11 => ?_)
              | refine W_guard_split rfl rfl rfl (fun hg11 => ?_) (fun hg11 => ?_)
            all_goals try (exfalso; first | contradiction | omega)
            all_goals (
             first
               | (iterate 2 refine W_guard_no rfl rfl rfl ?_)
               | (iterate 2 refine W_guard_un rfl rfl ?_)
               | (refine W_guard_yes rfl ?_
                  refine W_move rfl rfl ?_
                  refine W_guard_yes rfl ?_
                  first
                    | (refine W_not_t rfl rfl ?_)
                    | (refine W_not_f rfl rfl ?_)
                    | (refine W_not rfl rfl ?_))
             first
               | (refine W_pick_t rfl rfl rfl ?_)
               | (refine W_pick_f rfl rfl rfl ?_)
               | (refine W_pick_b rfl rfl rfl rfl ?_)
             refine W_move rfl rfl ?_
             first
               | refine W_guard_lit_t rfl ?_
               | refine W_guard_lit_f rfl ?_
               | refine W_guard_lit_u rfl ?_
               | refine W_guard_split_d rfl rfl rfl (fun hg12 => ?_) (fun hg12 => ?_)
               | refine W_guard_split_n rfl rfl rfl (fun hg12 => ?_) (fun hg12 => ?_)
               | refine W_guard_split_nb rfl rfl rfl (fun hg12 => ?_) (fun hg12 => ?_)
               | refine W_guard_split rfl rfl rfl (fun hg12 => ?_) (fun hg12 => ?_)
             all_goals try (exfalso; first | contradiction | omega)
             all_goals (
              first
                | (refine W_guard_no rfl rfl rfl ?_)
                | (refine W_guard_un rfl rfl ?_)
                | (refine W_guard_yes rfl ?_
                   refine W_pcall hp rfl ((all_letter [97, 98, 99] (by decide)).eq (r' := .bool true) (congrArg Value.bool (by decide +kernel))) rfl ?_
                   clear hp; intro w hp)
              first
                | (refine W_pick_t rfl rfl rfl ?_)
                | (refine W_pick_f rfl rfl rfl ?_)
                | (refine W_pick_b rfl rfl rfl rfl ?_)
              refine W_move rfl rfl ?_
              first
                | refine W_guard_lit_t rfl ?_
                | refine W_guard_lit_f rfl ?_
                | refine W_guard_lit_u rfl ?_
                | refine W_guard_split_d rfl rfl rfl (fun hg13 => ?_) (fun hg13 => ?_)
                | refine W_guard_split_n rfl rfl rfl (fun hg13 => ?_) (fun hg13 => ?_)
                | refine W_guard_split_nb rfl rfl rfl (fun hg13 => ?_) (fun hg13 => ?_)
                | refine W_guard_split rfl rfl rfl (fun hg13 => ?_) (fun hg13 => ?_)
              all_goals try (exfalso; first | contradiction | omega)
              all_goals (
               first
                 | (iterate 2 refine W_guard_no rfl rfl rfl ?_)
                 | (iterate 2 refine W_guard_un rfl rfl ?_)
                 | (refine W_guard_yes rfl ?_
                    refine W_pcall hp rfl ((all_letter [97, 49] (by decide)).eq (r' := .bool false) (congrArg Value.bool (by decide +kernel))) rfl ?_
                    clear hp; intro w hp
                    refine W_guard_yes rfl ?_
                    first
                      | (refine W_not_t rfl rfl ?_)
                      | (refine W_not_f rfl rfl ?_)
                      | (refine W_not rfl rfl ?_))
               first
                 | (refine W_pick_t rfl rfl rfl ?_)
                 | (refine W_pick_f rfl rfl rfl ?_)
                 | (refine W_pick_b rfl rfl rfl rfl ?_)
               refine W_move rfl rfl ?_
               first
                 | refine W_guard_lit_t rfl ?_
                 | refine W_guard_lit_f rfl ?_
                 | refine W_guard_lit_u rfl ?_
                 | refine W_guard_split_d rfl rfl rfl (fun hg14 => ?_) (fun hg14 => ?_)
                 | refine W_guard_split_n rfl rfl rfl (fun hg14 => ?_) (fun hg14 => ?_)
                 | refine W_guard_split_nb rfl rfl rfl (fun hg14 => ?_) (fun hg14 => ?_)
                 | refine W_guard_split rfl rfl rfl (fun hg14 => ?_) (fun hg14 => ?_)
               all_goals try (exfalso; first | contradiction | omega)
               all_goals (
                first
                  | (refine W_guard_no rfl rfl rfl ?_)
                  | (refine W_guard_un rfl rfl ?_)
                  | (refine W_guard_yes rfl ?_
                     refine W_pcall hp rfl ((isToken_spec [97] (by decide)).eq (r' := .bool true) (congrArg Value.bool (by decide +kernel))) rfl ?_
                     clear hp; intro w hp)
                first
                  | (refine W_pick_t rfl rfl rfl ?_)
                  | (refine W_pick_f rfl rfl rfl ?_)
                  | (refine W_pick_b rfl rfl rfl rfl ?_)
                refine W_move rfl rfl ?_
                first
                  | refine W_guard_lit_t rfl ?_
                  | refine W_guard_lit_f rfl ?_
                  | refine W_guard_lit_u rfl ?_
                  | refine W_guard_split_d rfl rfl rfl (fun hg15 => ?_) (fun hg15 => ?_)
                  | refine W_guard_split_n rfl rfl rfl (fun hg15 => ?_) (fun hg15 => ?_)
                  | refine W_guard_split_nb rfl rfl rfl (fun hg15 => ?_) (fun hg15 => ?_)
                  | refine W_guard_split rfl rfl rfl (fun hg15 => ?_) (fun hg15 => ?_)
                all_goals try (exfalso; first | contradiction | omega)
                all_goals (
                 first
                   | (iterate 2 refine W_guard_no rfl rfl rfl ?_)
                   | (iterate 2 refine W_guard_un rfl rfl ?_)
                   | (refine W_guard_yes rfl ?_
                      refine W_pcall hp rfl ((isToken_spec [] (by decide)).eq (r' := .bool false) (congrArg Value.bool (by decide +kernel))) rfl ?_
                      clear hp; intro w hp
                      refine W_guard_yes rfl ?_
                      first
                        | (refine W_not_t rfl rfl ?_)
                        | (refine W_not_f rfl rfl ?_)
                        | (refine W_not rfl rfl ?_))
                 first
                   | (refine W_pick_t rfl rfl rfl ?_)
                   | (refine W_pick_f rfl rfl rfl ?_)
                   | (refine W_pick_b rfl rfl rfl rfl ?_)
                 refine W_move rfl rfl ?_
                 first
                   | refine W_guard_lit_t rfl ?_
                   | refine W_guard_lit_f rfl ?_
                   | refine W_guard_lit_u rfl ?_
                   | refine W_guard_split_d rfl rfl rfl (fun hg16 => ?_) (fun hg16 => ?_)
                   | refine W_guard_split_n rfl rfl rfl (fun hg16 => ?_) (fun hg16 => ?_)
                   | refine W_guard_split_nb rfl rfl rfl (fun hg16 => ?_) (fun hg16 => ?_)
                   | refine W_guard_split rfl rfl rfl (fun hg16 => ?_) (fun hg16 => ?_)
                 all_goals try (exfalso; first | contradiction | omega)
                 all_goals (
                  first
                    | (iterate 2 refine W_guard_no rfl rfl rfl ?_)
                    | (iterate 2 refine W_guard_un rfl rfl ?_)
                    | (refine W_guard_yes rfl ?_
                       refine W_pcall hp rfl ((lower_spec [65, 45, 122] (by decide)).eq (r' := .string ⟨[97, 45, 122].toArray⟩) (congrArg strV (by decide +kernel))) rfl ?_
                       clear hp; intro w hp
                       refine W_guard_yes rfl ?_
                       first
                         | (refine W_seql_t rfl rfl ?_ rfl ?_; (focus (first | rfl | assumption)))
                         | (refine W_seql_f rfl rfl ?_ rfl ?_; (focus (first | assumption | decide | exact List.cons_ne_nil _ _)))
                         | (refine W_seql rfl rfl rfl ?_))
                  first
                    | (refine W_pick_t rfl rfl rfl ?_)
                    | (refine W_pick_f rfl rfl rfl ?_)
                    | (refine W_pick_b rfl rfl rfl rfl ?_)
                  refine W_move rfl rfl ?_
                  first
                    | refine W_guard_lit_t rfl ?_
                    | refine W_guard_lit_f rfl ?_
                    | refine W_guard_lit_u rfl ?_
                    | refine W_guard_split_d rfl rfl rfl (fun hg17 => ?_) (fun hg17 => ?_)
                    | refine W_guard_split_n rfl rfl rfl (fun hg17 => ?_) (fun hg17 => ?_)
                    | refine W_guard_split_nb rfl rfl rfl (fun hg17 => ?_) (fun hg17 => ?_)
                    | refine W_guard_split rfl rfl rfl (fun hg17 => ?_) (fun hg17 => ?_)
                  all_goals try (exfalso; first | contradiction | omega)
                  all_goals (
                   first
                     | (iterate 2 refine W_guard_no rfl rfl rfl ?_)
                     | (iterate 2 refine W_guard_un rfl rfl ?_)
                     | (refine W_guard_yes rfl ?_
                        refine W_pcall hp rfl ((trim_spec [32, 97, 32, 98, 32, 9] (by decide)).eq (r' := .string ⟨[97, 32, 98].toArray⟩) (congrArg strV (by decide +kernel))) rfl ?_
                        clear hp; intro w hp
                        refine W_guard_yes rfl ?_
                        first
                          | (refine W_seql_t rfl rfl ?_ rfl ?_; (focus (first | rfl | assumption)))
                          | (refine W_seql_f rfl rfl ?_ rfl ?_; (focus (first | assumption | decide | exact List.cons_ne_nil _ _)))
                          | (refine W_seql rfl rfl rfl ?_))
                   first
                     | (refine W_pick_t rfl rfl rfl ?_)
                     | (refine W_pick_f rfl rfl rfl ?_)
                     | (refine W_pick_b rfl rfl rfl rfl ?_)
                   refine W_assign rfl rfl ?_
                   refine W_nil ?_
                   refine N_then_k ?_
                   refine K_ret ?_
                   refine N_done1 (.inr rfl) rfl rfl ?_
                   exact ⟨_, rfl, rfl, hp.nil⟩)))))))))))))))))

theorem hexI_two (n : Nat) : (0 ≤ hexI n ∧ Value.tuple #[.int .i64 (if hexI n < 0 then 0 else hexI n), .bool (decide (0 ≤ hexI n))] = Value.tuple #[.int .i64 (hexI n), .bool true]) ∨ (hexI n < 0 ∧ Value.tuple #[.int .i64 (if hexI n < 0 then 0 else hexI n), .bool (decide (0 ≤ hexI n))] = Value.tuple #[.int .i64 0, .bool false]) := by
  rcases Int.lt_or_le (hexI n) 0 with h | h
  · right; rw [if_pos h, decide_eq_false (by omega)]; exact ⟨h, rfl⟩
  · left; rw [if_neg (by omega), decide_eq_true h]; exact ⟨h, rfl⟩
theorem lower_length (s : List UInt8) : (lower s).length = s.length := by simp [lower]
theorem trim_length (s : List UInt8) : (trim s).length ≤ s.length := by
  unfold trim trimR trimL
  rw [List.length_reverse]
  refine Nat.le_trans (List.dropWhile_sublist _).length_le ?_
  rw [List.length_reverse]
  exact (List.dropWhile_sublist _).length_le
theorem lowerC_lowerC : ∀ c : UInt8, lowerC (lowerC c) = lowerC c := u8_all (by decide +kernel)
theorem blank_lowerC : ∀ c : UInt8, blankB (lowerC c) = blankB c := u8_all (by decide +kernel)
theorem lower_lower (s : List UInt8) : lower (lower s) = lower s := by simp [lower, lowerC_lowerC]
theorem dropWhile_map_lower (s : List UInt8) : (s.map lowerC).dropWhile blankB = (s.dropWhile blankB).map lowerC := by
  induction s with
  | nil => rfl
  | cons c s ih => simp only [List.map_cons, List.dropWhile_cons, blank_lowerC]; split <;> simp [ih]
theorem trim_lower (s : List UInt8) : trim (lower s) = lower (trim s) := by
  simp only [trim, trimR, trimL, lower, dropWhile_map_lower, ← List.map_reverse]
theorem dropWhile_fix {p : UInt8 → Bool} (s : List UInt8) : (s.dropWhile p).dropWhile p = s.dropWhile p := by
  induction s with
  | nil => rfl
  | cons c s ih => 
    simp only [List.dropWhile_cons]
    split
    · exact ih
    · simp_all [List.dropWhile_cons]
theorem trimL_head {s : List UInt8} (h : ∀ c, s[0]? = some c → blankB c = false) : trimL s = s := by
  cases s with
  | nil => rfl
  | cons c s => exact trimL_cons (h c rfl)
theorem dropWhile_head {p : UInt8 → Bool} : ∀ (s : List UInt8) c, (s.dropWhile p)[0]? = some c → p c = false
  | [], c, h => by simp at h
  | x :: s, c, h => by
    simp only [List.dropWhile_cons] at h
    split at h
    · exact dropWhile_head s c h
    · simp at h; subst h; exact Bool.eq_false_iff.2 ‹¬p x = true›
theorem trimR_prefix (s : List UInt8) : trimR s <+: s := by
  have := List.dropWhile_suffix (l := s.reverse) blankB
  unfold trimR
  have h2 := List.reverse_prefix.2 this
  rwa [List.reverse_reverse] at h2
theorem trimL_trimR (s : List UInt8) (h : trimL s = s) : trimL (trimR s) = trimR s := by
  apply trimL_head
  intro c hc
  obtain ⟨q, hq⟩ := trimR_prefix s
  have h0 : s[0]? = some c := by rw [← hq, List.getElem?_append_left (by have := (List.getElem?_eq_some_iff.1 hc).1; omega)]; exact hc
  rw [← h] at h0
  exact dropWhile_head s c h0
theorem trim_trim (s : List UInt8) : trim (trim s) = trim s := by
  have h1 : trimL (trim s) = trim s := trimL_trimR _ (dropWhile_fix s)
  show trimR (trimL (trim s)) = trim s
  rw [h1]
  show trimR (trimR (trimL s)) = trimR (trimL s)
  unfold trimR
  rw [List.reverse_reverse, dropWhile_fix]
theorem trimL_rep (m : Nat) (s : List UInt8) : trimL (List.replicate m 32 ++ s) = trimL s := by
  induction m with
  | zero => rfl
  | succ m ih => rw [List.replicate_succ, List.cons_append, trimL_cons_blank (by decide), ih]
theorem trimR_rep (m : Nat) (s : List UInt8) : trimR (s ++ List.replicate m 9) = trimR s := by
  induction m with
  | zero => simp
  | succ m ih => rw [List.replicate_succ', ← List.append_assoc, trimR_snoc_blank (by decide), ih]
theorem trimL_all {m : Nat} : trimL (List.replicate m 9) = [] := by
  induction m with
  | zero => rfl
  | succ m ih => rw [List.replicate_succ, trimL_cons_blank (by decide), ih]
theorem trimL_app (s : List UInt8) (m : Nat) : trimL (s ++ List.replicate m 9) = trimL s ++ List.replicate m 9 ∨ (trimL s = [] ∧ trimL (s ++ List.replicate m 9) = []) := by
  induction s with
  | nil => right; exact ⟨rfl, trimL_all⟩
  | cons c s ih =>
    cases h : blankB c with
    | true => rw [List.cons_append, trimL_cons_blank h, trimL_cons_blank h]; exact ih
    | false => left; rw [List.cons_append, trimL_cons h, trimL_cons h]; rfl
theorem trim_blanks (a : List UInt8) (m m2 : Nat) : trim (List.replicate m 32 ++ a ++ List.replicate m2 9) = trim a := by
  unfold trim
  rw [List.append_assoc, trimL_rep]
  rcases trimL_app a m2 with h | ⟨h1, h2⟩
  · rw [h, trimR_rep]
  · rw [h1, h2]
theorem token_field1 : ∀ c : UInt8, tokenB c = true → fieldB c = true := u8_all (by decide +kernel)
theorem token_field {s : List UInt8} (h : isToken s = true) : s.all fieldB = true ∧ 0 < s.length := by
  simp only [isToken, Bool.and_eq_true, Bool.not_eq_true', List.all_eq_true] at h
  refine ⟨List.all_eq_true.2 fun c hc => token_field1 c (h.2 c hc), ?_⟩
  cases s <;> simp_all
/-- What can be said of a byte: whether it is unreserved, a token byte, a path byte, a field byte, a letter, a digit. -/
theorem nest_cases : ∀ c : UInt8,
    (Value.bool (decide (UnresP c.toNat)) = .bool true ∧ Value.bool (decide (TokenP c.toNat)) = .bool true ∧ Value.bool (decide (PathP c.toNat)) = .bool true ∧ Value.bool (decide (FieldP c.toNat)) = .bool true ∧ True ∧ True) ∨
    (Value.bool (decide (UnresP c.toNat)) = .bool false ∧ Value.bool (decide (TokenP c.toNat)) = .bool true ∧ Value.bool (decide (PathP c.toNat)) = .bool true ∧ Value.bool (decide (FieldP c.toNat)) = .bool true ∧ ¬ LetterP c.toNat ∧ ¬ DigitP c.toNat) ∨
    (Value.bool (decide (UnresP c.toNat)) = .bool false ∧ Value.bool (decide (TokenP c.toNat)) = .bool false ∧ Value.bool (decide (PathP c.toNat)) = .bool true ∧ Value.bool (decide (FieldP c.toNat)) = .bool true ∧ ¬ LetterP c.toNat ∧ ¬ DigitP c.toNat) ∨
    (Value.bool (decide (UnresP c.toNat)) = .bool false ∧ Value.bool (decide (TokenP c.toNat)) = .bool true ∧ Value.bool (decide (PathP c.toNat)) = .bool false ∧ Value.bool (decide (FieldP c.toNat)) = .bool true ∧ ¬ LetterP c.toNat ∧ ¬ DigitP c.toNat) ∨
    (Value.bool (decide (UnresP c.toNat)) = .bool false ∧ Value.bool (decide (TokenP c.toNat)) = .bool false ∧ Value.bool (decide (PathP c.toNat)) = .bool false ∧ Value.bool (decide (FieldP c.toNat)) = .bool true ∧ ¬ LetterP c.toNat ∧ ¬ DigitP c.toNat) ∨
    (Value.bool (decide (UnresP c.toNat)) = .bool false ∧ Value.bool (decide (TokenP c.toNat)) = .bool false ∧ Value.bool (decide (PathP c.toNat)) = .bool false ∧ Value.bool (decide (FieldP c.toNat)) = .bool false ∧ ¬ LetterP c.toNat ∧ ¬ DigitP c.toNat) := by
  simp only [Value.bool.injEq]
  exact u8_all (by decide +kernel)

theorem OctetClasses_walk (c : UInt8) : PureF Try.prog 3 [.int .u8 (c.toNat : Int)] (.bool true) := by
  have hr := hexI_range c.toNat
  refine PureF.intro go3 Try.func3 rfl rfl fun w0 hp => ?_
  refine K_seq ?_
  refine K_region ?_
  refine W_assign rfl rfl ?_
  refine W_nil ?_
  refine N_then_k ?_
  refine K_seq ?_
  refine K_seq ?_
  refine K_region ?_
  refine W_pcall hp rfl (awake_spec) rfl ?_
  clear hp; intro w hp
  first
    | (refine W_not_t rfl rfl ?_)
    | (refine W_not_f rfl rfl ?_)
    | (refine W_not rfl rfl ?_)
  refine W_nil ?_
  refine N_then_k ?_
  first
    | refine K_cond_d rfl (fun hc1 => ?_) (fun hc1 => ?_)
    | refine K_cond_n rfl (fun hc1 => ?_) (fun hc1 => ?_)
    | refine K_cond_nb rfl (fun hc1 => ?_) (fun hc1 => ?_)
    | refine K_cond_t rfl (fun hc1 => ?_) (fun hc1 => ?_)
  · try (exfalso; first | contradiction | omega)
    all_goals (
     refine K_seq ?_
     refine K_region ?_
     refine W_assign rfl rfl ?_
     refine W_nil ?_
     refine N_then_k ?_
     refine K_ret ?_
     refine N_then_ret ?_
     refine N_done1 (.inr rfl) rfl rfl ?_
     exact ⟨_, rfl, rfl, hp.nil⟩)
  · try (exfalso; first | contradiction | omega)
    all_goals (
     refine K_skip ?_
     refine N_then_k ?_
     refine K_seq ?_
     refine K_region ?_
     rcases hexI_two c.toNat with ⟨h0, hn⟩ | ⟨h0, hn⟩
     all_goals (
      refine W_move rfl rfl ?_
      refine W_pcall hp rfl ((hex_spec c).eq hn) rfl ?_
      clear hp; intro w hp
      refine W_move rfl rfl ?_
      refine W_extract rfl rfl rfl ?_
      refine W_extract rfl rfl rfl ?_
      refine W_assign rfl rfl ?_
      refine W_assign rfl rfl ?_
      refine W_nil ?_
      refine N_then_k ?_
      refine K_seq ?_
      refine K_seq ?_
      refine K_region ?_
      refine W_move rfl rfl ?_
      refine W_move rfl rfl ?_
      refine W_pcall hp rfl (rhex_spec c) rfl ?_
      clear hp; intro w hp
      first
        | (refine W_geq_t rfl rfl ?_ rfl ?_; (focus (omega)))
        | (refine W_geq_f rfl rfl ?_ rfl ?_; (focus (omega)))
        | (refine W_geq rfl rfl rfl ?_)
      first
        | (refine W_bneq_f Try.underlying4 rfl rfl rfl rfl ?_)
        | (refine W_bneq_t Try.underlying4 rfl rfl rfl rfl ?_)
        | (refine W_bneq Try.underlying4 rfl rfl rfl ?_)
      refine W_move rfl rfl ?_
      first
        | refine W_guard_lit_t rfl ?_
        | refine W_guard_lit_f rfl ?_
        | refine W_guard_lit_u rfl ?_
        | refine W_guard_split_d rfl rfl rfl (fun hg2 => ?_) (fun hg2 => ?_)
        | refine W_guard_split_n rfl rfl rfl (fun hg2 => ?_) (fun hg2 => ?_)
        | refine W_guard_split_nb rfl rfl rfl (fun hg2 => ?_) (fun hg2 => ?_)
        | refine W_guard_split rfl rfl rfl (fun hg2 => ?_) (fun hg2 => ?_)
      all_goals try (exfalso; first | contradiction | omega)
      all_goals (
       first
         | (iterate 2 refine W_guard_no rfl rfl rfl ?_)
         | (iterate 2 refine W_guard_un rfl rfl ?_)
         | (refine W_guard_yes rfl ?_
            refine W_move rfl rfl ?_
            refine W_guard_yes rfl ?_
            refine W_move rfl rfl ?_)
       first
         | refine W_guard_lit_t rfl ?_
         | refine W_guard_lit_f rfl ?_
         | refine W_guard_lit_u rfl ?_
         | refine W_guard_split_d rfl rfl rfl (fun hg3 => ?_) (fun hg3 => ?_)
         | refine W_guard_split_n rfl rfl rfl (fun hg3 => ?_) (fun hg3 => ?_)
         | refine W_guard_split_nb rfl rfl rfl (fun hg3 => ?_) (fun hg3 => ?_)
         | refine W_guard_split rfl rfl rfl (fun hg3 => ?_) (fun hg3 => ?_)
       all_goals try (exfalso; first | contradiction | omega)
       all_goals (
        first
          | (iterate 4 refine W_guard_no rfl rfl rfl ?_)
          | (iterate 4 refine W_guard_un rfl rfl ?_)
          | (refine W_guard_yes rfl ?_
             refine W_move rfl rfl ?_
             refine W_guard_yes rfl ?_
             refine W_move rfl rfl ?_
             refine W_guard_yes rfl ?_
             refine W_pcall hp rfl (rhex_spec c) rfl ?_
             clear hp; intro w hp
             refine W_guard_yes rfl ?_
             first
               | (refine W_neq_t rfl rfl ?_ rfl ?_; (focus (omega)))
               | (refine W_neq_f rfl rfl ?_ rfl ?_; (focus (omega)))
               | (refine W_neq rfl rfl rfl ?_))
        first
          | (refine W_guard_no rfl rfl rfl ?_)
          | (refine W_guard_un rfl rfl ?_)
          | (refine W_guard_yes rfl ?_
             first
               | (refine W_pick_t rfl rfl rfl ?_)
               | (refine W_pick_f rfl rfl rfl ?_)
               | (refine W_pick_b rfl rfl rfl rfl ?_))
        first
          | (refine W_pick_t rfl rfl rfl ?_)
          | (refine W_pick_f rfl rfl rfl ?_)
          | (refine W_pick_b rfl rfl rfl rfl ?_)
        refine W_move rfl rfl ?_
        first
          | refine W_guard_lit_t rfl ?_
          | refine W_guard_lit_f rfl ?_
          | refine W_guard_lit_u rfl ?_
          | refine W_guard_split_d rfl rfl rfl (fun hg4 => ?_) (fun hg4 => ?_)
          | refine W_guard_split_n rfl rfl rfl (fun hg4 => ?_) (fun hg4 => ?_)
          | refine W_guard_split_nb rfl rfl rfl (fun hg4 => ?_) (fun hg4 => ?_)
          | refine W_guard_split rfl rfl rfl (fun hg4 => ?_) (fun hg4 => ?_)
        all_goals try (exfalso; first | contradiction | omega)
        all_goals (
         first
           | (iterate 3 refine W_guard_no rfl rfl rfl ?_)
           | (iterate 3 refine W_guard_un rfl rfl ?_)
           | (refine W_guard_yes rfl ?_
              refine W_move rfl rfl ?_
              refine W_guard_yes rfl ?_
              first
                | (refine W_not_t rfl rfl ?_)
                | (refine W_not_f rfl rfl ?_)
                | (refine W_not rfl rfl ?_)
              refine W_guard_yes rfl ?_
              refine W_move rfl rfl ?_)
         first
           | refine W_guard_lit_t rfl ?_
           | refine W_guard_lit_f rfl ?_
           | refine W_guard_lit_u rfl ?_
           | refine W_guard_split_d rfl rfl rfl (fun hg5 => ?_) (fun hg5 => ?_)
           | refine W_guard_split_n rfl rfl rfl (fun hg5 => ?_) (fun hg5 => ?_)
           | refine W_guard_split_nb rfl rfl rfl (fun hg5 => ?_) (fun hg5 => ?_)
           | refine W_guard_split rfl rfl rfl (fun hg5 => ?_) (fun hg5 => ?_)
         all_goals try (exfalso; first | contradiction | omega)
         all_goals (
          first
            | (iterate 2 refine W_guard_no rfl rfl rfl ?_)
            | (iterate 2 refine W_guard_un rfl rfl ?_)
            | (refine W_guard_yes rfl ?_
               refine W_move rfl rfl ?_
               refine W_guard_yes rfl ?_
               first
                 | (refine W_neq_t rfl rfl ?_ rfl ?_; (focus (omega)))
                 | (refine W_neq_f rfl rfl ?_ rfl ?_; (focus (omega)))
                 | (refine W_neq rfl rfl rfl ?_))
          first
            | (refine W_guard_no rfl rfl rfl ?_)
            | (refine W_guard_un rfl rfl ?_)
            | (refine W_guard_yes rfl ?_
               first
                 | (refine W_pick_t rfl rfl rfl ?_)
                 | (refine W_pick_f rfl rfl rfl ?_)
                 | (refine W_pick_b rfl rfl rfl rfl ?_))
          first
            | (refine W_pick_t rfl rfl rfl ?_)
            | (refine W_pick_f rfl rfl rfl ?_)
            | (refine W_pick_b rfl rfl rfl rfl ?_)
          refine W_nil ?_
          refine N_then_k ?_
          first
            | refine K_cond_d rfl (fun hc6 => ?_) (fun hc6 => ?_)
            | refine K_cond_n rfl (fun hc6 => ?_) (fun hc6 => ?_)
            | refine K_cond_nb rfl (fun hc6 => ?_) (fun hc6 => ?_)
            | refine K_cond_t rfl (fun hc6 => ?_) (fun hc6 => ?_)
          · try (exfalso; first | contradiction | omega)
            all_goals (
             refine K_seq ?_
             refine K_region ?_
             refine W_assign rfl rfl ?_
             refine W_nil ?_
             refine N_then_k ?_
             refine K_ret ?_
             refine N_then_ret ?_
             refine N_done1 (.inr rfl) rfl rfl ?_
             exact ⟨_, rfl, rfl, hp.nil⟩)
          · try (exfalso; first | contradiction | omega)
            all_goals (
             refine K_skip ?_
             refine N_then_k ?_
             refine K_seq ?_
             refine K_region ?_
             refine W_move rfl rfl ?_
             refine W_pcall hp rfl (letter_spec c) rfl ?_
             clear hp; intro w hp
             refine W_move rfl rfl ?_
             refine W_pcall hp rfl (class0_spec c) rfl ?_
             clear hp; intro w hp
             first
               | (refine W_beql_t Try.underlying4 rfl rfl rfl rfl ?_)
               | (refine W_beql_f Try.underlying4 rfl rfl rfl rfl ?_)
               | (refine W_beql Try.underlying4 rfl rfl rfl ?_)
             refine W_move rfl rfl ?_
             first
               | refine W_guard_lit_t rfl ?_
               | refine W_guard_lit_f rfl ?_
               | refine W_guard_lit_u rfl ?_
               | refine W_guard_split_d rfl rfl rfl (fun hg7 => ?_) (fun hg7 => ?_)
               | refine W_guard_split_n rfl rfl rfl (fun hg7 => ?_) (fun hg7 => ?_)
               | refine W_guard_split_nb rfl rfl rfl (fun hg7 => ?_) (fun hg7 => ?_)
               | refine W_guard_split rfl rfl rfl (fun hg7 => ?_) (fun hg7 => ?_)
             all_goals try (exfalso; first | contradiction | omega)
             all_goals (
              first
                | (iterate 5 refine W_guard_no rfl rfl rfl ?_)
                | (iterate 5 refine W_guard_un rfl rfl ?_)
                | (refine W_guard_yes rfl ?_
                   refine W_move rfl rfl ?_
                   refine W_guard_yes rfl ?_
                   refine W_pcall hp rfl (digit_spec c) rfl ?_
                   clear hp; intro w hp
                   refine W_guard_yes rfl ?_
                   refine W_move rfl rfl ?_
                   refine W_guard_yes rfl ?_
                   refine W_pcall hp rfl (class1_spec c) rfl ?_
                   clear hp; intro w hp
                   refine W_guard_yes rfl ?_
                   first
                     | (refine W_beql_t Try.underlying4 rfl rfl rfl rfl ?_)
                     | (refine W_beql_f Try.underlying4 rfl rfl rfl rfl ?_)
                     | (refine W_beql Try.underlying4 rfl rfl rfl ?_))
              first
                | (refine W_pick_t rfl rfl rfl ?_)
                | (refine W_pick_f rfl rfl rfl ?_)
                | (refine W_pick_b rfl rfl rfl rfl ?_)
              refine W_move rfl rfl ?_
              first
                | refine W_guard_lit_t rfl ?_
                | refine W_guard_lit_f rfl ?_
                | refine W_guard_lit_u rfl ?_
                | refine W_guard_split_d rfl rfl rfl (fun hg8 => ?_) (fun hg8 => ?_)
                | refine W_guard_split_n rfl rfl rfl (fun hg8 => ?_) (fun hg8 => ?_)
                | refine W_guard_split_nb rfl rfl rfl (fun hg8 => ?_) (fun hg8 => ?_)
                | refine W_guard_split rfl rfl rfl (fun hg8 => ?_) (fun hg8 => ?_)
              all_goals try (exfalso; first | contradiction | omega)
              all_goals (
               first
                 | (iterate 5 refine W_guard_no rfl rfl rfl ?_)
                 | (iterate 5 refine W_guard_un rfl rfl ?_)
                 | (refine W_guard_yes rfl ?_
                    refine W_move rfl rfl ?_
                    refine W_guard_yes rfl ?_
                    refine W_pcall hp rfl (token_spec c) rfl ?_
                    clear hp; intro w hp
                    refine W_guard_yes rfl ?_
                    refine W_move rfl rfl ?_
                    refine W_guard_yes rfl ?_
                    refine W_pcall hp rfl (class2_spec c) rfl ?_
                    clear hp; intro w hp
                    refine W_guard_yes rfl ?_
                    first
                      | (refine W_beql_t Try.underlying4 rfl rfl rfl rfl ?_)
                      | (refine W_beql_f Try.underlying4 rfl rfl rfl rfl ?_)
                      | (refine W_beql Try.underlying4 rfl rfl rfl ?_))
               first
                 | (refine W_pick_t rfl rfl rfl ?_)
                 | (refine W_pick_f rfl rfl rfl ?_)
                 | (refine W_pick_b rfl rfl rfl rfl ?_)
               refine W_move rfl rfl ?_
               first
                 | refine W_guard_lit_t rfl ?_
                 | refine W_guard_lit_f rfl ?_
                 | refine W_guard_lit_u rfl ?_
                 | refine W_guard_split_d rfl rfl rfl (fun hg9 => ?_) (fun hg9 => ?_)
                 | refine W_guard_split_n rfl rfl rfl (fun hg9 => ?_) (fun hg9 => ?_)
                 | refine W_guard_split_nb rfl rfl rfl (fun hg9 => ?_) (fun hg9 => ?_)
                 | refine W_guard_split rfl rfl rfl (fun hg9 => ?_) (fun hg9 => ?_)
               all_goals try (exfalso; first | contradiction | omega)
               all_goals (
                first
                  | (iterate 5 refine W_guard_no rfl rfl rfl ?_)
                  | (iterate 5 refine W_guard_un rfl rfl ?_)
                  | (refine W_guard_yes rfl ?_
                     refine W_move rfl rfl ?_
                     refine W_guard_yes rfl ?_
                     refine W_pcall hp rfl (unreserved_spec c) rfl ?_
                     clear hp; intro w hp
                     refine W_guard_yes rfl ?_
                     refine W_move rfl rfl ?_
                     refine W_guard_yes rfl ?_
                     refine W_pcall hp rfl (class3_spec c) rfl ?_
                     clear hp; intro w hp
                     refine W_guard_yes rfl ?_
                     first
                       | (refine W_beql_t Try.underlying4 rfl rfl rfl rfl ?_)
                       | (refine W_beql_f Try.underlying4 rfl rfl rfl rfl ?_)
                       | (refine W_beql Try.underlying4 rfl rfl rfl ?_))
                first
                  | (refine W_pick_t rfl rfl rfl ?_)
                  | (refine W_pick_f rfl rfl rfl ?_)
                  | (refine W_pick_b rfl rfl rfl rfl ?_)
                refine W_move rfl rfl ?_
                first
                  | refine W_guard_lit_t rfl ?_
                  | refine W_guard_lit_f rfl ?_
                  | refine W_guard_lit_u rfl ?_
                  | refine W_guard_split_d rfl rfl rfl (fun hg10 => ?_) (fun hg10 => ?_)
                  | refine W_guard_split_n rfl rfl rfl (fun hg10 => ?_) (fun hg10 => ?_)
                  | refine W_guard_split_nb rfl rfl rfl (fun hg10 => ?_) (fun hg10 => ?_)
                  | refine W_guard_split rfl rfl rfl (fun hg10 => ?_) (fun hg10 => ?_)
                all_goals try (exfalso; first | contradiction | omega)
                all_goals (
                 first
                   | (iterate 5 refine W_guard_no rfl rfl rfl ?_)
                   | (iterate 5 refine W_guard_un rfl rfl ?_)
                   | (refine W_guard_yes rfl ?_
                      refine W_move rfl rfl ?_
                      refine W_guard_yes rfl ?_
                      refine W_pcall hp rfl (path_spec c) rfl ?_
                      clear hp; intro w hp
                      refine W_guard_yes rfl ?_
                      refine W_move rfl rfl ?_
                      refine W_guard_yes rfl ?_
                      refine W_pcall hp rfl (class4_spec c) rfl ?_
                      clear hp; intro w hp
                      refine W_guard_yes rfl ?_
                      first
                        | (refine W_beql_t Try.underlying4 rfl rfl rfl rfl ?_)
                        | (refine W_beql_f Try.underlying4 rfl rfl rfl rfl ?_)
                        | (refine W_beql Try.underlying4 rfl rfl rfl ?_))
                 first
                   | (refine W_pick_t rfl rfl rfl ?_)
                   | (refine W_pick_f rfl rfl rfl ?_)
                   | (refine W_pick_b rfl rfl rfl rfl ?_)
                 refine W_move rfl rfl ?_
                 first
                   | refine W_guard_lit_t rfl ?_
                   | refine W_guard_lit_f rfl ?_
                   | refine W_guard_lit_u rfl ?_
                   | refine W_guard_split_d rfl rfl rfl (fun hg11 => ?_) (fun hg11 => ?_)
                   | refine W_guard_split_n rfl rfl rfl (fun hg11 => ?_) (fun hg11 => ?_)
                   | refine W_guard_split_nb rfl rfl rfl (fun hg11 => ?_) (fun hg11 => ?_)
                   | refine W_guard_split rfl rfl rfl (fun hg11 => ?_) (fun hg11 => ?_)
                 all_goals try (exfalso; first | contradiction | omega)
                 all_goals (
                  first
                    | (iterate 5 refine W_guard_no rfl rfl rfl ?_)
                    | (iterate 5 refine W_guard_un rfl rfl ?_)
                    | (refine W_guard_yes rfl ?_
                       refine W_move rfl rfl ?_
                       refine W_guard_yes rfl ?_
                       refine W_pcall hp rfl (field_spec c) rfl ?_
                       clear hp; intro w hp
                       refine W_guard_yes rfl ?_
                       refine W_move rfl rfl ?_
                       refine W_guard_yes rfl ?_
                       refine W_pcall hp rfl (class5_spec c) rfl ?_
                       clear hp; intro w hp
                       refine W_guard_yes rfl ?_
                       first
                         | (refine W_beql_t Try.underlying4 rfl rfl rfl rfl ?_)
                         | (refine W_beql_f Try.underlying4 rfl rfl rfl rfl ?_)
                         | (refine W_beql Try.underlying4 rfl rfl rfl ?_))
                  first
                    | (refine W_pick_t rfl rfl rfl ?_)
                    | (refine W_pick_f rfl rfl rfl ?_)
                    | (refine W_pick_b rfl rfl rfl rfl ?_)
                  refine W_assign rfl rfl ?_
                  refine W_nil ?_
                  refine N_then_k ?_
                  refine K_ret ?_
                  refine N_done1 (.inr rfl) rfl rfl ?_
                  exact ⟨_, rfl, rfl, hp.nil⟩))))))))))))

theorem OctetTexts_walk (s : List UInt8) : PureF Try.prog 4 [.string ⟨s.toArray⟩] (.bool true) := by
  refine PureF.intro go4 Try.func4 rfl rfl fun w0 hp => ?_
  refine K_seq ?_
  refine K_region ?_
  refine W_assign rfl rfl ?_
  refine W_nil ?_
  refine N_then_k ?_
  refine K_seq ?_
  refine K_seq ?_
  refine K_region ?_
  refine W_pcall hp rfl (awake_spec) rfl ?_
  clear hp; intro w hp
  first
    | (refine W_not_t rfl rfl ?_)
    | (refine W_not_f rfl rfl ?_)
    | (refine W_not rfl rfl ?_)
  refine W_move rfl rfl ?_
  first
    | refine W_guard_lit_t rfl ?_
    | refine W_guard_lit_f rfl ?_
    | refine W_guard_lit_u rfl ?_
    | refine W_guard_split_d rfl rfl rfl (fun hg1 => ?_) (fun hg1 => ?_)
    | refine W_guard_split_n rfl rfl rfl (fun hg1 => ?_) (fun hg1 => ?_)
    | refine W_guard_split_nb rfl rfl rfl (fun hg1 => ?_) (fun hg1 => ?_)
    | refine W_guard_split rfl rfl rfl (fun hg1 => ?_) (fun hg1 => ?_)
  all_goals try (exfalso; first | contradiction | omega)
  all_goals (
   first
     | (iterate 3 refine W_guard_no rfl rfl rfl ?_)
     | (iterate 3 refine W_guard_un rfl rfl ?_)
     | (refine W_guard_yes rfl ?_
        refine W_move rfl rfl ?_
        refine W_guard_yes rfl ?_
        refine W_len_s Try.underlying9 rfl rfl ?_
        refine W_guard_yes rfl ?_
        first
          | (refine W_gtr_t rfl rfl ?_ rfl ?_; (focus (omega)))
          | (refine W_gtr_f rfl rfl ?_ rfl ?_; (focus (omega)))
          | (refine W_gtr rfl rfl rfl ?_))
   first
     | (refine W_pick_t rfl rfl rfl ?_)
     | (refine W_pick_f rfl rfl rfl ?_)
     | (refine W_pick_b rfl rfl rfl rfl ?_)
   refine W_nil ?_
   refine N_then_k ?_
   first
     | refine K_cond_d rfl (fun hc2 => ?_) (fun hc2 => ?_)
     | refine K_cond_n rfl (fun hc2 => ?_) (fun hc2 => ?_)
     | refine K_cond_nb rfl (fun hc2 => ?_) (fun hc2 => ?_)
     | refine K_cond_t rfl (fun hc2 => ?_) (fun hc2 => ?_)
   · try (exfalso; first | contradiction | omega)
     all_goals (
      refine K_seq ?_
      refine K_region ?_
      refine W_pcall hp rfl (awake_spec) rfl ?_
      clear hp; intro w hp
      refine W_assign rfl rfl ?_
      refine W_nil ?_
      refine N_then_k ?_
      refine K_ret ?_
      refine N_then_ret ?_
      refine N_done1 (.inr rfl) rfl rfl ?_
      exact ⟨_, rfl, rfl, hp.nil⟩)
   · try (exfalso; first | contradiction | omega)
     all_goals (
      refine K_skip ?_
      refine N_then_k ?_
      refine K_seq ?_
      refine K_region ?_
      refine W_move rfl rfl ?_
      refine W_pcall hp rfl (all_path s (by omega)) rfl ?_
      clear hp; intro w hp
      refine W_move rfl rfl ?_
      refine W_pcall hp rfl (rall4_spec s (by omega)) rfl ?_
      clear hp; intro w hp
      first
        | (refine W_beql_t Try.underlying4 rfl rfl rfl rfl ?_)
        | (refine W_beql_f Try.underlying4 rfl rfl rfl rfl ?_)
        | (refine W_beql Try.underlying4 rfl rfl rfl ?_)
      refine W_move rfl rfl ?_
      first
        | refine W_guard_lit_t rfl ?_
        | refine W_guard_lit_f rfl ?_
        | refine W_guard_lit_u rfl ?_
        | refine W_guard_split_d rfl rfl rfl (fun hg3 => ?_) (fun hg3 => ?_)
        | refine W_guard_split_n rfl rfl rfl (fun hg3 => ?_) (fun hg3 => ?_)
        | refine W_guard_split_nb rfl rfl rfl (fun hg3 => ?_) (fun hg3 => ?_)
        | refine W_guard_split rfl rfl rfl (fun hg3 => ?_) (fun hg3 => ?_)
      all_goals try (exfalso; first | contradiction | omega)
      all_goals (
       first
         | (iterate 5 refine W_guard_no rfl rfl rfl ?_)
         | (iterate 5 refine W_guard_un rfl rfl ?_)
         | (refine W_guard_yes rfl ?_
            refine W_move rfl rfl ?_
            refine W_guard_yes rfl ?_
            refine W_pcall hp rfl (all_field s (by omega)) rfl ?_
            clear hp; intro w hp
            refine W_guard_yes rfl ?_
            refine W_move rfl rfl ?_
            refine W_guard_yes rfl ?_
            refine W_pcall hp rfl (rall5_spec s (by omega)) rfl ?_
            clear hp; intro w hp
            refine W_guard_yes rfl ?_
            first
              | (refine W_beql_t Try.underlying4 rfl rfl rfl rfl ?_)
              | (refine W_beql_f Try.underlying4 rfl rfl rfl rfl ?_)
              | (refine W_beql Try.underlying4 rfl rfl rfl ?_))
       first
         | (refine W_pick_t rfl rfl rfl ?_)
         | (refine W_pick_f rfl rfl rfl ?_)
         | (refine W_pick_b rfl rfl rfl rfl ?_)
       refine W_move rfl rfl ?_
       first
         | refine W_guard_lit_t rfl ?_
         | refine W_guard_lit_f rfl ?_
         | refine W_guard_lit_u rfl ?_
         | refine W_guard_split_d rfl rfl rfl (fun hg4 => ?_) (fun hg4 => ?_)
         | refine W_guard_split_n rfl rfl rfl (fun hg4 => ?_) (fun hg4 => ?_)
         | refine W_guard_split_nb rfl rfl rfl (fun hg4 => ?_) (fun hg4 => ?_)
         | refine W_guard_split rfl rfl rfl (fun hg4 => ?_) (fun hg4 => ?_)
       all_goals try (exfalso; first | contradiction | omega)
       all_goals (
        first
          | (iterate 5 refine W_guard_no rfl rfl rfl ?_)
          | (iterate 5 refine W_guard_un rfl rfl ?_)
          | (refine W_guard_yes rfl ?_
             refine W_move rfl rfl ?_
             refine W_guard_yes rfl ?_
             refine W_pcall hp rfl (isToken_spec s (by omega)) rfl ?_
             clear hp; intro w hp
             refine W_guard_yes rfl ?_
             refine W_move rfl rfl ?_
             refine W_guard_yes rfl ?_
             refine W_pcall hp rfl (risToken_spec s (by omega)) rfl ?_
             clear hp; intro w hp
             refine W_guard_yes rfl ?_
             first
               | (refine W_beql_t Try.underlying4 rfl rfl rfl rfl ?_)
               | (refine W_beql_f Try.underlying4 rfl rfl rfl rfl ?_)
               | (refine W_beql Try.underlying4 rfl rfl rfl ?_))
        first
          | (refine W_pick_t rfl rfl rfl ?_)
          | (refine W_pick_f rfl rfl rfl ?_)
          | (refine W_pick_b rfl rfl rfl rfl ?_)
        refine W_move rfl rfl ?_
        first
          | refine W_guard_lit_t rfl ?_
          | refine W_guard_lit_f rfl ?_
          | refine W_guard_lit_u rfl ?_
          | refine W_guard_split_d rfl rfl rfl (fun hg5 => ?_) (fun hg5 => ?_)
          | refine W_guard_split_n rfl rfl rfl (fun hg5 => ?_) (fun hg5 => ?_)
          | refine W_guard_split_nb rfl rfl rfl (fun hg5 => ?_) (fun hg5 => ?_)
          | refine W_guard_split rfl rfl rfl (fun hg5 => ?_) (fun hg5 => ?_)
        all_goals try (exfalso; first | contradiction | omega)
        all_goals (
         first
           | (iterate 5 refine W_guard_no rfl rfl rfl ?_)
           | (iterate 5 refine W_guard_un rfl rfl ?_)
           | (refine W_guard_yes rfl ?_
              refine W_move rfl rfl ?_
              refine W_guard_yes rfl ?_
              refine W_pcall hp rfl (lower_spec s (by omega)) rfl ?_
              clear hp; intro w hp
              refine W_guard_yes rfl ?_
              refine W_move rfl rfl ?_
              refine W_guard_yes rfl ?_
              refine W_pcall hp rfl (rlower_spec s (by omega)) rfl ?_
              clear hp; intro w hp
              refine W_guard_yes rfl ?_
              first
                | (refine W_seql_t rfl rfl ?_ rfl ?_; (focus (first | rfl | assumption)))
                | (refine W_seql_f rfl rfl ?_ rfl ?_; (focus (first | assumption | decide | exact List.cons_ne_nil _ _)))
                | (refine W_seql rfl rfl rfl ?_))
         first
           | (refine W_pick_t rfl rfl rfl ?_)
           | (refine W_pick_f rfl rfl rfl ?_)
           | (refine W_pick_b rfl rfl rfl rfl ?_)
         refine W_move rfl rfl ?_
         first
           | refine W_guard_lit_t rfl ?_
           | refine W_guard_lit_f rfl ?_
           | refine W_guard_lit_u rfl ?_
           | refine W_guard_split_d rfl rfl rfl (fun hg6 => ?_) (fun hg6 => ?_)
           | refine W_guard_split_n rfl rfl rfl (fun hg6 => ?_) (fun hg6 => ?_)
           | refine W_guard_split_nb rfl rfl rfl (fun hg6 => ?_) (fun hg6 => ?_)
           | refine W_guard_split rfl rfl rfl (fun hg6 => ?_) (fun hg6 => ?_)
         all_goals try (exfalso; first | contradiction | omega)
         all_goals (
          first
            | (iterate 5 refine W_guard_no rfl rfl rfl ?_)
            | (iterate 5 refine W_guard_un rfl rfl ?_)
            | (refine W_guard_yes rfl ?_
               refine W_move rfl rfl ?_
               refine W_guard_yes rfl ?_
               refine W_pcall hp rfl (trim_spec s (by omega)) rfl ?_
               clear hp; intro w hp
               refine W_guard_yes rfl ?_
               refine W_move rfl rfl ?_
               refine W_guard_yes rfl ?_
               refine W_pcall hp rfl (rtrim_spec s (by omega)) rfl ?_
               clear hp; intro w hp
               refine W_guard_yes rfl ?_
               first
                 | (refine W_seql_t rfl rfl ?_ rfl ?_; (focus (first | rfl | assumption)))
                 | (refine W_seql_f rfl rfl ?_ rfl ?_; (focus (first | assumption | decide | exact List.cons_ne_nil _ _)))
                 | (refine W_seql rfl rfl rfl ?_))
          first
            | (refine W_pick_t rfl rfl rfl ?_)
            | (refine W_pick_f rfl rfl rfl ?_)
            | (refine W_pick_b rfl rfl rfl rfl ?_)
          refine W_assign rfl rfl ?_
          refine W_nil ?_
          refine N_then_k ?_
          refine K_ret ?_
          refine N_done1 (.inr rfl) rfl rfl ?_
          exact ⟨_, rfl, rfl, hp.nil⟩))))))

theorem OctetAgain_walk (s : List UInt8) : PureF Try.prog 5 [.string ⟨s.toArray⟩] (.bool true) := by
  have hll := lower_length s
  have htl := trim_length s
  refine PureF.intro go5 Try.func5 rfl rfl fun w0 hp => ?_
  refine K_seq ?_
  refine K_region ?_
  refine W_assign rfl rfl ?_
  refine W_nil ?_
  refine N_then_k ?_
  refine K_seq ?_
  refine K_seq ?_
  refine K_region ?_
  refine W_pcall hp rfl (awake_spec) rfl ?_
  clear hp; intro w hp
  first
    | (refine W_not_t rfl rfl ?_)
    | (refine W_not_f rfl rfl ?_)
    | (refine W_not rfl rfl ?_)
  refine W_move rfl rfl ?_
  first
    | refine W_guard_lit_t rfl ?_
    | refine W_guard_lit_f rfl ?_
    | refine W_guard_lit_u rfl ?_
    | refine W_guard_split_d rfl rfl rfl (fun hg1 => ?_) (fun hg1 => ?_)
    | refine W_guard_split_n rfl rfl rfl (fun hg1 => ?_) (fun hg1 => ?_)
    | refine W_guard_split_nb rfl rfl rfl (fun hg1 => ?_) (fun hg1 => ?_)
    | refine W_guard_split rfl rfl rfl (fun hg1 => ?_) (fun hg1 => ?_)
  all_goals try (exfalso; first | contradiction | omega)
  all_goals (
   first
     | (iterate 3 refine W_guard_no rfl rfl rfl ?_)
     | (iterate 3 refine W_guard_un rfl rfl ?_)
     | (refine W_guard_yes rfl ?_
        refine W_move rfl rfl ?_
        refine W_guard_yes rfl ?_
        refine W_len_s Try.underlying9 rfl rfl ?_
        refine W_guard_yes rfl ?_
        first
          | (refine W_gtr_t rfl rfl ?_ rfl ?_; (focus (omega)))
          | (refine W_gtr_f rfl rfl ?_ rfl ?_; (focus (omega)))
          | (refine W_gtr rfl rfl rfl ?_))
   first
     | (refine W_pick_t rfl rfl rfl ?_)
     | (refine W_pick_f rfl rfl rfl ?_)
     | (refine W_pick_b rfl rfl rfl rfl ?_)
   refine W_nil ?_
   refine N_then_k ?_
   first
     | refine K_cond_d rfl (fun hc2 => ?_) (fun hc2 => ?_)
     | refine K_cond_n rfl (fun hc2 => ?_) (fun hc2 => ?_)
     | refine K_cond_nb rfl (fun hc2 => ?_) (fun hc2 => ?_)
     | refine K_cond_t rfl (fun hc2 => ?_) (fun hc2 => ?_)
   · try (exfalso; first | contradiction | omega)
     all_goals (
      refine K_seq ?_
      refine K_region ?_
      refine W_pcall hp rfl (awake_spec) rfl ?_
      clear hp; intro w hp
      refine W_assign rfl rfl ?_
      refine W_nil ?_
      refine N_then_k ?_
      refine K_ret ?_
      refine N_then_ret ?_
      refine N_done1 (.inr rfl) rfl rfl ?_
      exact ⟨_, rfl, rfl, hp.nil⟩)
   · try (exfalso; first | contradiction | omega)
     all_goals (
      refine K_skip ?_
      refine N_then_k ?_
      refine K_seq ?_
      refine K_region ?_
      refine W_move rfl rfl ?_
      refine W_pcall hp rfl (lower_spec s (by omega)) rfl ?_
      clear hp; intro w hp
      refine W_assign rfl rfl ?_
      refine W_nil ?_
      refine N_then_k ?_
      refine K_seq ?_
      refine K_region ?_
      refine W_move rfl rfl ?_
      refine W_pcall hp rfl (trim_spec s (by omega)) rfl ?_
      clear hp; intro w hp
      refine W_assign rfl rfl ?_
      refine W_nil ?_
      refine N_then_k ?_
      refine K_seq ?_
      refine K_region ?_
      refine W_move rfl rfl ?_
      refine W_pcall hp rfl ((lower_spec (lower s) (by omega)).eq (congrArg strV (lower_lower s))) rfl ?_
      clear hp; intro w hp
      refine W_move rfl rfl ?_
      first
        | (refine W_seql_t rfl rfl ?_ rfl ?_; (focus (first | rfl | assumption)))
        | (refine W_seql_f rfl rfl ?_ rfl ?_; (focus (first | assumption | decide | exact List.cons_ne_nil _ _)))
        | (refine W_seql rfl rfl rfl ?_)
      refine W_move rfl rfl ?_
      first
        | refine W_guard_lit_t rfl ?_
        | refine W_guard_lit_f rfl ?_
        | refine W_guard_lit_u rfl ?_
        | refine W_guard_split_d rfl rfl rfl (fun hg3 => ?_) (fun hg3 => ?_)
        | refine W_guard_split_n rfl rfl rfl (fun hg3 => ?_) (fun hg3 => ?_)
        | refine W_guard_split_nb rfl rfl rfl (fun hg3 => ?_) (fun hg3 => ?_)
        | refine W_guard_split rfl rfl rfl (fun hg3 => ?_) (fun hg3 => ?_)
      all_goals try (exfalso; first | contradiction | omega)
      all_goals (
       first
         | (iterate 4 refine W_guard_no rfl rfl rfl ?_)
         | (iterate 4 refine W_guard_un rfl rfl ?_)
         | (refine W_guard_yes rfl ?_
            refine W_move rfl rfl ?_
            refine W_guard_yes rfl ?_
            refine W_pcall hp rfl ((trim_spec (trim s) (by omega)).eq (congrArg strV (trim_trim s))) rfl ?_
            clear hp; intro w hp
            refine W_guard_yes rfl ?_
            refine W_move rfl rfl ?_
            refine W_guard_yes rfl ?_
            first
              | (refine W_seql_t rfl rfl ?_ rfl ?_; (focus (first | rfl | assumption)))
              | (refine W_seql_f rfl rfl ?_ rfl ?_; (focus (first | assumption | decide | exact List.cons_ne_nil _ _)))
              | (refine W_seql rfl rfl rfl ?_))
       first
         | (refine W_pick_t rfl rfl rfl ?_)
         | (refine W_pick_f rfl rfl rfl ?_)
         | (refine W_pick_b rfl rfl rfl rfl ?_)
       refine W_move rfl rfl ?_
       first
         | refine W_guard_lit_t rfl ?_
         | refine W_guard_lit_f rfl ?_
         | refine W_guard_lit_u rfl ?_
         | refine W_guard_split_d rfl rfl rfl (fun hg4 => ?_) (fun hg4 => ?_)
         | refine W_guard_split_n rfl rfl rfl (fun hg4 => ?_) (fun hg4 => ?_)
         | refine W_guard_split_nb rfl rfl rfl (fun hg4 => ?_) (fun hg4 => ?_)
         | refine W_guard_split rfl rfl rfl (fun hg4 => ?_) (fun hg4 => ?_)
       all_goals try (exfalso; first | contradiction | omega)
       all_goals (
        first
          | (iterate 5 refine W_guard_no rfl rfl rfl ?_)
          | (iterate 5 refine W_guard_un rfl rfl ?_)
          | (refine W_guard_yes rfl ?_
             refine W_move rfl rfl ?_
             refine W_guard_yes rfl ?_
             refine W_pcall hp rfl (lower_spec (trim s) (by omega)) rfl ?_
             clear hp; intro w hp
             refine W_guard_yes rfl ?_
             refine W_move rfl rfl ?_
             refine W_guard_yes rfl ?_
             refine W_pcall hp rfl ((trim_spec (lower s) (by omega)).eq (congrArg strV (trim_lower s))) rfl ?_
             clear hp; intro w hp
             refine W_guard_yes rfl ?_
             first
               | (refine W_seql_t rfl rfl ?_ rfl ?_; (focus (first | rfl | assumption)))
               | (refine W_seql_f rfl rfl ?_ rfl ?_; (focus (first | assumption | decide | exact List.cons_ne_nil _ _)))
               | (refine W_seql rfl rfl rfl ?_))
        first
          | (refine W_pick_t rfl rfl rfl ?_)
          | (refine W_pick_f rfl rfl rfl ?_)
          | (refine W_pick_b rfl rfl rfl rfl ?_)
        refine W_move rfl rfl ?_
        first
          | refine W_guard_lit_t rfl ?_
          | refine W_guard_lit_f rfl ?_
          | refine W_guard_lit_u rfl ?_
          | refine W_guard_split_d rfl rfl rfl (fun hg5 => ?_) (fun hg5 => ?_)
          | refine W_guard_split_n rfl rfl rfl (fun hg5 => ?_) (fun hg5 => ?_)
          | refine W_guard_split_nb rfl rfl rfl (fun hg5 => ?_) (fun hg5 => ?_)
          | refine W_guard_split rfl rfl rfl (fun hg5 => ?_) (fun hg5 => ?_)
        all_goals try (exfalso; first | contradiction | omega)
        all_goals (
         first
           | (iterate 5 refine W_guard_no rfl rfl rfl ?_)
           | (iterate 5 refine W_guard_un rfl rfl ?_)
           | (refine W_guard_yes rfl ?_
              refine W_move rfl rfl ?_
              refine W_guard_yes rfl ?_
              refine W_len_s Try.underlying9 rfl rfl ?_
              refine W_guard_yes rfl ?_
              refine W_move rfl rfl ?_
              refine W_guard_yes rfl ?_
              refine W_len_s Try.underlying9 rfl rfl ?_
              refine W_guard_yes rfl ?_
              first
                | (refine W_eql_t rfl rfl ?_ rfl ?_; (focus (omega)))
                | (refine W_eql_f rfl rfl ?_ rfl ?_; (focus (omega)))
                | (refine W_eql rfl rfl rfl ?_))
         first
           | (refine W_pick_t rfl rfl rfl ?_)
           | (refine W_pick_f rfl rfl rfl ?_)
           | (refine W_pick_b rfl rfl rfl rfl ?_)
         refine W_move rfl rfl ?_
         first
           | refine W_guard_lit_t rfl ?_
           | refine W_guard_lit_f rfl ?_
           | refine W_guard_lit_u rfl ?_
           | refine W_guard_split_d rfl rfl rfl (fun hg6 => ?_) (fun hg6 => ?_)
           | refine W_guard_split_n rfl rfl rfl (fun hg6 => ?_) (fun hg6 => ?_)
           | refine W_guard_split_nb rfl rfl rfl (fun hg6 => ?_) (fun hg6 => ?_)
           | refine W_guard_split rfl rfl rfl (fun hg6 => ?_) (fun hg6 => ?_)
         all_goals try (exfalso; first | contradiction | omega)
         all_goals (
          first
            | (iterate 5 refine W_guard_no rfl rfl rfl ?_)
            | (iterate 5 refine W_guard_un rfl rfl ?_)
            | (refine W_guard_yes rfl ?_
               refine W_move rfl rfl ?_
               refine W_guard_yes rfl ?_
               refine W_len_s Try.underlying9 rfl rfl ?_
               refine W_guard_yes rfl ?_
               refine W_move rfl rfl ?_
               refine W_guard_yes rfl ?_
               refine W_len_s Try.underlying9 rfl rfl ?_
               refine W_guard_yes rfl ?_
               first
                 | (refine W_leq_t rfl rfl ?_ rfl ?_; (focus (omega)))
                 | (refine W_leq_f rfl rfl ?_ rfl ?_; (focus (omega)))
                 | (refine W_leq rfl rfl rfl ?_))
          first
            | (refine W_pick_t rfl rfl rfl ?_)
            | (refine W_pick_f rfl rfl rfl ?_)
            | (refine W_pick_b rfl rfl rfl rfl ?_)
          refine W_assign rfl rfl ?_
          refine W_nil ?_
          refine N_then_k ?_
          refine K_ret ?_
          refine N_done1 (.inr rfl) rfl rfl ?_
          exact ⟨_, rfl, rfl, hp.nil⟩))))))

theorem OctetJoins_walk (a b : List UInt8) (x y : Int) (hx : 0 ≤ x ∧ x ≤ 255) (hy : 0 ≤ y ∧ y ≤ 255) : PureF Try.prog 6 [.string ⟨a.toArray⟩, .string ⟨b.toArray⟩, .int .u8 x, .int .u8 y] (.bool true) := by
  obtain ⟨m, hm⟩ : ∃ m : Nat, (m : Int) = x % 20 := ⟨(x % 20).toNat, by omega⟩
  obtain ⟨m2, hm2⟩ : ∃ m : Nat, (m : Int) = y % 20 := ⟨(y % 20).toNat, by omega⟩
  refine PureF.intro go6 Try.func6 rfl rfl fun w0 hp => ?_
  refine K_seq ?_
  refine K_region ?_
  refine W_assign rfl rfl ?_
  refine W_nil ?_
  refine N_then_k ?_
  refine K_seq ?_
  refine K_seq ?_
  refine K_region ?_
  refine W_pcall hp rfl (awake_spec) rfl ?_
  clear hp; intro w hp
  first
    | (refine W_not_t rfl rfl ?_)
    | (refine W_not_f rfl rfl ?_)
    | (refine W_not rfl rfl ?_)
  refine W_move rfl rfl ?_
  first
    | refine W_guard_lit_t rfl ?_
    | refine W_guard_lit_f rfl ?_
    | refine W_guard_lit_u rfl ?_
    | refine W_guard_split_d rfl rfl rfl (fun hg1 => ?_) (fun hg1 => ?_)
    | refine W_guard_split_n rfl rfl rfl (fun hg1 => ?_) (fun hg1 => ?_)
    | refine W_guard_split_nb rfl rfl rfl (fun hg1 => ?_) (fun hg1 => ?_)
    | refine W_guard_split rfl rfl rfl (fun hg1 => ?_) (fun hg1 => ?_)
  all_goals try (exfalso; first | contradiction | omega)
  all_goals (
   first
     | (iterate 3 refine W_guard_no rfl rfl rfl ?_)
     | (iterate 3 refine W_guard_un rfl rfl ?_)
     | (refine W_guard_yes rfl ?_
        refine W_move rfl rfl ?_
        refine W_guard_yes rfl ?_
        refine W_len_s Try.underlying9 rfl rfl ?_
        refine W_guard_yes rfl ?_
        first
          | (refine W_gtr_t rfl rfl ?_ rfl ?_; (focus (omega)))
          | (refine W_gtr_f rfl rfl ?_ rfl ?_; (focus (omega)))
          | (refine W_gtr rfl rfl rfl ?_))
   first
     | (refine W_pick_t rfl rfl rfl ?_)
     | (refine W_pick_f rfl rfl rfl ?_)
     | (refine W_pick_b rfl rfl rfl rfl ?_)
   refine W_move rfl rfl ?_
   first
     | refine W_guard_lit_t rfl ?_
     | refine W_guard_lit_f rfl ?_
     | refine W_guard_lit_u rfl ?_
     | refine W_guard_split_d rfl rfl rfl (fun hg2 => ?_) (fun hg2 => ?_)
     | refine W_guard_split_n rfl rfl rfl (fun hg2 => ?_) (fun hg2 => ?_)
     | refine W_guard_split_nb rfl rfl rfl (fun hg2 => ?_) (fun hg2 => ?_)
     | refine W_guard_split rfl rfl rfl (fun hg2 => ?_) (fun hg2 => ?_)
   all_goals try (exfalso; first | contradiction | omega)
   all_goals (
    first
      | (iterate 3 refine W_guard_no rfl rfl rfl ?_)
      | (iterate 3 refine W_guard_un rfl rfl ?_)
      | (refine W_guard_yes rfl ?_
         refine W_move rfl rfl ?_
         refine W_guard_yes rfl ?_
         refine W_len_s Try.underlying9 rfl rfl ?_
         refine W_guard_yes rfl ?_
         first
           | (refine W_gtr_t rfl rfl ?_ rfl ?_; (focus (omega)))
           | (refine W_gtr_f rfl rfl ?_ rfl ?_; (focus (omega)))
           | (refine W_gtr rfl rfl rfl ?_))
    first
      | (refine W_pick_t rfl rfl rfl ?_)
      | (refine W_pick_f rfl rfl rfl ?_)
      | (refine W_pick_b rfl rfl rfl rfl ?_)
    refine W_nil ?_
    refine N_then_k ?_
    first
      | refine K_cond_d rfl (fun hc3 => ?_) (fun hc3 => ?_)
      | refine K_cond_n rfl (fun hc3 => ?_) (fun hc3 => ?_)
      | refine K_cond_nb rfl (fun hc3 => ?_) (fun hc3 => ?_)
      | refine K_cond_t rfl (fun hc3 => ?_) (fun hc3 => ?_)
    · try (exfalso; first | contradiction | omega)
      all_goals (
       refine K_seq ?_
       refine K_region ?_
       refine W_pcall hp rfl (awake_spec) rfl ?_
       clear hp; intro w hp
       refine W_assign rfl rfl ?_
       refine W_nil ?_
       refine N_then_k ?_
       refine K_ret ?_
       refine N_then_ret ?_
       refine N_done1 (.inr rfl) rfl rfl ?_
       exact ⟨_, rfl, rfl, hp.nil⟩)
    · try (exfalso; first | contradiction | omega)
      all_goals (
       refine K_skip ?_
       refine N_then_k ?_
       refine K_mid (σ := Unit) [8, 25, 26, 27, 28, 29, 30, 31, 32, 33, 34, 35]
           (fun _ => [])
           (fun _ w => Hp w0 [] [] w) ?_ ?_
       · refine K_seq ?_
         refine K_region ?_
         refine W_move rfl rfl ?_
         refine W_move rfl rfl ?_
         refine W_sadd rfl rfl ?_ rfl ?_
         (focus (first | omega | (simp only [List.length_append, List.length_cons, List.length_nil, List.length_drop, List.length_take] at *; omega) | (simp; omega)))
         refine W_pcall hp rfl ((all_token (a ++ b) (by simp; omega)).eq (congrArg Value.bool (List.all_append ..))) rfl ?_
         clear hp; intro w hp
         rcases hA : a.all tokenB <;> rcases hB : b.all tokenB
         all_goals (
          refine W_move rfl rfl ?_
          refine W_pcall hp rfl ((all_token a (by omega)).eq (congrArg Value.bool hA)) rfl ?_
          clear hp; intro w hp
          refine W_move rfl rfl ?_
          first
            | refine W_guard_lit_t rfl ?_
            | refine W_guard_lit_f rfl ?_
            | refine W_guard_lit_u rfl ?_
            | refine W_guard_split_d rfl rfl rfl (fun hg4 => ?_) (fun hg4 => ?_)
            | refine W_guard_split_n rfl rfl rfl (fun hg4 => ?_) (fun hg4 => ?_)
            | refine W_guard_split_nb rfl rfl rfl (fun hg4 => ?_) (fun hg4 => ?_)
            | refine W_guard_split rfl rfl rfl (fun hg4 => ?_) (fun hg4 => ?_)
          all_goals try (exfalso; first | contradiction | omega)
          all_goals (
           first
             | (iterate 2 refine W_guard_no rfl rfl rfl ?_)
             | (iterate 2 refine W_guard_un rfl rfl ?_)
             | (refine W_guard_yes rfl ?_
                refine W_move rfl rfl ?_
                refine W_guard_yes rfl ?_
                refine W_pcall hp rfl ((all_token b (by omega)).eq (congrArg Value.bool hB)) rfl ?_
                clear hp; intro w hp)
           first
             | (refine W_pick_t rfl rfl rfl ?_)
             | (refine W_pick_f rfl rfl rfl ?_)
             | (refine W_pick_b rfl rfl rfl rfl ?_)
           first
             | (refine W_bneq_f Try.underlying4 rfl rfl rfl rfl ?_)
             | (refine W_bneq_t Try.underlying4 rfl rfl rfl rfl ?_)
             | (refine W_bneq Try.underlying4 rfl rfl rfl ?_)
           refine W_nil ?_
           refine N_then_k ?_
           first
             | refine K_cond_d rfl (fun hc5 => ?_) (fun hc5 => ?_)
             | refine K_cond_n rfl (fun hc5 => ?_) (fun hc5 => ?_)
             | refine K_cond_nb rfl (fun hc5 => ?_) (fun hc5 => ?_)
             | refine K_cond_t rfl (fun hc5 => ?_) (fun hc5 => ?_)
           · try (exfalso; first | contradiction | omega)
             all_goals (
              refine K_seq ?_
              refine K_region ?_
              refine W_assign rfl rfl ?_
              refine W_nil ?_
              refine N_then_k ?_
              refine K_ret ?_
              refine N_then_ret ?_
              refine N_done1 (.inr rfl) rfl rfl ?_
              exact ⟨_, rfl, rfl, hp.nil⟩)
           · try (exfalso; first | contradiction | omega)
             all_goals (
              refine K_skip ?_
              refine N_mid (()) (sub_end ?_ ?_) ?_
              · repeat' (first | exact sub_lst_nil (sub_nil _) | refine sub_lst rfl ?_ | (refine sub_lst_eq rfl ?_ ?_; · first | rfl | (simp; done) | (congr 1; omega)))
              · repeat' (first | exact sub_refl _ | exact sub_strip _ _ | refine sub_s_cons rfl ?_ | refine sub_s_lst rfl ?_ | refine sub_s_strip rfl ?_)
              · exact hp)))
       · intro _ w hJ
         have hp := hJ
         refine K_seq ?_
         refine K_region ?_
         refine W_move rfl rfl ?_
         refine W_assign rfl rfl ?_
         refine W_nil ?_
         refine N_then_k ?_
         refine K_seq ?_
         refine K_seq ?_
         refine K_region ?_
         refine W_assign rfl rfl ?_
         refine W_nil ?_
         refine N_then_k ?_
         refine K_block ?_
         refine K_loop (σ := Nat) [9, 10, 37, 38, 39, 40, 41, 42, 43, 44, 45]
             (fun k => [(10, .int .i64 k), (9, .string ⟨(List.replicate k (32 : UInt8) ++ a).toArray⟩)])
             (fun k w => Hp w0 [] [] w ∧ k ≤ m)
             (fun k => m - k) (0) ?_ ?_ ?_
         · repeat' (first | exact sub_lst_nil (sub_nil _) | refine sub_lst rfl ?_ | (refine sub_lst_eq rfl ?_ ?_; · first | rfl | (simp; done) | (congr 1; omega)))
         · exact ⟨hp, Nat.zero_le _⟩
         · intro k w hJ
           clear hp
           obtain ⟨hp, hle⟩ := hJ
           rcases (Nat.lt_or_ge k m).imp id (fun h => (Nat.le_antisymm hle h).symm) with hlt | rfl
           all_goals (
            refine K_seq ?_
            refine K_seq ?_
            refine K_region ?_
            refine W_move rfl rfl ?_
            refine W_move rfl rfl ?_
            first
              | (refine W_conv_i Try.underlying5 Try.underlying3 rfl (wr_i64 ?_) rfl ?_; (focus (first | omega | (have := u8_lt ‹_›; omega))))
              | (refine W_conv_i Try.underlying5 Try.underlying3 rfl rfl rfl ?_)
            first
              | (refine W_rem rfl rfl ?_ (rem_nn ?_) rfl ?_; (focus (omega)); (focus (omega)))
              | (refine W_rem rfl rfl ?_ rfl rfl ?_; (focus (omega)))
            first
              | (refine W_lss_t rfl rfl ?_ rfl ?_; (focus (omega)))
              | (refine W_lss_f rfl rfl ?_ rfl ?_; (focus (omega)))
              | (refine W_lss rfl rfl rfl ?_)
            refine W_nil ?_
            refine N_then_k ?_
            first
              | refine K_cond_d rfl (fun hc6 => ?_) (fun hc6 => ?_)
              | refine K_cond_n rfl (fun hc6 => ?_) (fun hc6 => ?_)
              | refine K_cond_nb rfl (fun hc6 => ?_) (fun hc6 => ?_)
              | refine K_cond_t rfl (fun hc6 => ?_) (fun hc6 => ?_)
            · try (exfalso; first | contradiction | omega)
              all_goals (
               refine K_skip ?_
               refine N_then_k ?_
               refine K_seq ?_
               refine K_block ?_
               refine K_region ?_
               refine W_move rfl rfl ?_
               refine W_sadd rfl rfl ?_ rfl ?_
               (focus (first | omega | (simp only [List.length_append, List.length_cons, List.length_nil, List.length_drop, List.length_take] at *; omega) | (simp; omega)))
               refine W_assign rfl rfl ?_
               refine W_nil ?_
               refine N_block_normal ?_
               refine N_then_k ?_
               refine K_region ?_
               refine W_move rfl rfl ?_
               first
                 | (refine W_add rfl rfl (wr_i64 ?_) rfl ?_; (focus (omega)))
                 | (refine W_add rfl rfl rfl rfl ?_)
               refine W_assign rfl rfl ?_
               refine W_nil ?_
               refine N_again (k + 1) (sub_end ?_ ?_) ?_ ?_
               · repeat' (first | exact sub_lst_nil (sub_nil _) | refine sub_lst rfl ?_ | (refine sub_lst_eq rfl ?_ ?_; · first | rfl | (simp; done) | (congr 1; omega)))
               · repeat' (first | exact sub_refl _ | exact sub_strip _ _ | refine sub_s_cons rfl ?_ | refine sub_s_lst rfl ?_ | refine sub_s_strip rfl ?_)
               · exact ⟨hp, hlt⟩
               · omega)
            · try (exfalso; first | contradiction | omega)
              all_goals (
               refine K_exit ?_
               refine N_then_exit ?_
               refine N_then_exit ?_
               refine N_block_exit ?_
               refine N_then_k ?_
               refine K_seq ?_
               refine K_seq ?_
               refine K_region ?_
               refine W_assign rfl rfl ?_
               refine W_nil ?_
               refine N_then_k ?_
               refine K_block ?_
               refine K_loop (σ := Nat) [9, 11, 46, 47, 48, 49, 50, 51, 52, 53, 54]
                   (fun k => [(11, .int .i64 k), (9, .string ⟨(List.replicate m (32 : UInt8) ++ a ++ List.replicate k 9).toArray⟩)])
                   (fun k w => Hp w0 [] [] w ∧ k ≤ m2)
                   (fun k => m2 - k) (0) ?_ ?_ ?_
               · repeat' (first | exact sub_lst_nil (sub_nil _) | refine sub_lst rfl ?_ | (refine sub_lst_eq rfl ?_ ?_; · first | rfl | (simp; done) | (congr 1; omega)))
               · exact ⟨hp, Nat.zero_le _⟩
               · intro k w hJ
                 clear hp
                 obtain ⟨hp, hle⟩ := hJ
                 rcases (Nat.lt_or_ge k m2).imp id (fun h => (Nat.le_antisymm hle h).symm) with hlt | rfl
                 all_goals (
                  refine K_seq ?_
                  refine K_seq ?_
                  refine K_region ?_
                  refine W_move rfl rfl ?_
                  refine W_move rfl rfl ?_
                  first
                    | (refine W_conv_i Try.underlying5 Try.underlying3 rfl (wr_i64 ?_) rfl ?_; (focus (first | omega | (have := u8_lt ‹_›; omega))))
                    | (refine W_conv_i Try.underlying5 Try.underlying3 rfl rfl rfl ?_)
                  first
                    | (refine W_rem rfl rfl ?_ (rem_nn ?_) rfl ?_; (focus (omega)); (focus (omega)))
                    | (refine W_rem rfl rfl ?_ rfl rfl ?_; (focus (omega)))
                  first
                    | (refine W_lss_t rfl rfl ?_ rfl ?_; (focus (omega)))
                    | (refine W_lss_f rfl rfl ?_ rfl ?_; (focus (omega)))
                    | (refine W_lss rfl rfl rfl ?_)
                  refine W_nil ?_
                  refine N_then_k ?_
                  first
                    | refine K_cond_d rfl (fun hc7 => ?_) (fun hc7 => ?_)
                    | refine K_cond_n rfl (fun hc7 => ?_) (fun hc7 => ?_)
                    | refine K_cond_nb rfl (fun hc7 => ?_) (fun hc7 => ?_)
                    | refine K_cond_t rfl (fun hc7 => ?_) (fun hc7 => ?_)
                  · try (exfalso; first | contradiction | omega)
                    all_goals (
                     refine K_skip ?_
                     refine N_then_k ?_
                     refine K_seq ?_
                     refine K_block ?_
                     refine K_region ?_
                     refine W_move rfl rfl ?_
                     refine W_sadd rfl rfl ?_ rfl ?_
                     (focus (first | omega | (simp only [List.length_append, List.length_cons, List.length_nil, List.length_drop, List.length_take] at *; omega) | (simp; omega)))
                     refine W_assign rfl rfl ?_
                     refine W_nil ?_
                     refine N_block_normal ?_
                     refine N_then_k ?_
                     refine K_region ?_
                     refine W_move rfl rfl ?_
                     first
                       | (refine W_add rfl rfl (wr_i64 ?_) rfl ?_; (focus (omega)))
                       | (refine W_add rfl rfl rfl rfl ?_)
                     refine W_assign rfl rfl ?_
                     refine W_nil ?_
                     refine N_again (k + 1) (sub_end ?_ ?_) ?_ ?_
                     · repeat' (first | exact sub_lst_nil (sub_nil _) | refine sub_lst rfl ?_ | (refine sub_lst_eq rfl ?_ ?_; · first | rfl | (rw [List.replicate_succ' (n := k), ← List.append_assoc]) | (simp; done) | (congr 1; omega)))
                     · repeat' (first | exact sub_refl _ | exact sub_strip _ _ | refine sub_s_cons rfl ?_ | refine sub_s_lst rfl ?_ | refine sub_s_strip rfl ?_)
                     · exact ⟨hp, hlt⟩
                     · omega)
                  · try (exfalso; first | contradiction | omega)
                    all_goals (
                     refine K_exit ?_
                     refine N_then_exit ?_
                     refine N_then_exit ?_
                     refine N_block_exit ?_
                     refine N_then_k ?_
                     refine K_seq ?_
                     refine K_region ?_
                     refine W_move rfl rfl ?_
                     refine W_pcall hp rfl ((trim_spec (List.replicate m 32 ++ a ++ List.replicate m2 9) (by simp; omega)).eq (congrArg strV (trim_blanks a m m2))) rfl ?_
                     clear hp; intro w hp
                     refine W_move rfl rfl ?_
                     refine W_pcall hp rfl (trim_spec a (by omega)) rfl ?_
                     clear hp; intro w hp
                     first
                       | (refine W_seql_t rfl rfl ?_ rfl ?_; (focus (first | rfl | assumption)))
                       | (refine W_seql_f rfl rfl ?_ rfl ?_; (focus (first | assumption | decide | exact List.cons_ne_nil _ _)))
                       | (refine W_seql rfl rfl rfl ?_)
                     refine W_assign rfl rfl ?_
                     refine W_nil ?_
                     refine N_then_k ?_
                     refine K_ret ?_
                     refine N_done1 (.inr rfl) rfl rfl ?_
                     exact ⟨_, rfl, rfl, hp.nil⟩)))))))

theorem OctetNests_walk (s : List UInt8) : PureF Try.prog 7 [.string ⟨s.toArray⟩] (.bool true) := by
  refine PureF.intro go7 Try.func7 rfl rfl fun w0 hp => ?_
  refine K_seq ?_
  refine K_region ?_
  refine W_assign rfl rfl ?_
  refine W_nil ?_
  refine N_then_k ?_
  refine K_seq ?_
  refine K_seq ?_
  refine K_region ?_
  refine W_pcall hp rfl (awake_spec) rfl ?_
  clear hp; intro w hp
  first
    | (refine W_not_t rfl rfl ?_)
    | (refine W_not_f rfl rfl ?_)
    | (refine W_not rfl rfl ?_)
  refine W_move rfl rfl ?_
  first
    | refine W_guard_lit_t rfl ?_
    | refine W_guard_lit_f rfl ?_
    | refine W_guard_lit_u rfl ?_
    | refine W_guard_split_d rfl rfl rfl (fun hg1 => ?_) (fun hg1 => ?_)
    | refine W_guard_split_n rfl rfl rfl (fun hg1 => ?_) (fun hg1 => ?_)
    | refine W_guard_split_nb rfl rfl rfl (fun hg1 => ?_) (fun hg1 => ?_)
    | refine W_guard_split rfl rfl rfl (fun hg1 => ?_) (fun hg1 => ?_)
  all_goals try (exfalso; first | contradiction | omega)
  all_goals (
   first
     | (iterate 3 refine W_guard_no rfl rfl rfl ?_)
     | (iterate 3 refine W_guard_un rfl rfl ?_)
     | (refine W_guard_yes rfl ?_
        refine W_move rfl rfl ?_
        refine W_guard_yes rfl ?_
        refine W_len_s Try.underlying9 rfl rfl ?_
        refine W_guard_yes rfl ?_
        first
          | (refine W_gtr_t rfl rfl ?_ rfl ?_; (focus (omega)))
          | (refine W_gtr_f rfl rfl ?_ rfl ?_; (focus (omega)))
          | (refine W_gtr rfl rfl rfl ?_))
   first
     | (refine W_pick_t rfl rfl rfl ?_)
     | (refine W_pick_f rfl rfl rfl ?_)
     | (refine W_pick_b rfl rfl rfl rfl ?_)
   refine W_nil ?_
   refine N_then_k ?_
   first
     | refine K_cond_d rfl (fun hc2 => ?_) (fun hc2 => ?_)
     | refine K_cond_n rfl (fun hc2 => ?_) (fun hc2 => ?_)
     | refine K_cond_nb rfl (fun hc2 => ?_) (fun hc2 => ?_)
     | refine K_cond_t rfl (fun hc2 => ?_) (fun hc2 => ?_)
   · try (exfalso; first | contradiction | omega)
     all_goals (
      refine K_seq ?_
      refine K_region ?_
      refine W_pcall hp rfl (awake_spec) rfl ?_
      clear hp; intro w hp
      refine W_assign rfl rfl ?_
      refine W_nil ?_
      refine N_then_k ?_
      refine K_ret ?_
      refine N_then_ret ?_
      refine N_done1 (.inr rfl) rfl rfl ?_
      refine ⟨_, rfl, ?_, hp.nil⟩
      first
        | rfl
        | (have h2 := htf (by assumption)
           first | exact congrArg Value.bool (decide_eq_true (by omega)) | (exfalso; simp_all)))
   · try (exfalso; first | contradiction | omega)
     all_goals (
      refine K_skip ?_
      refine N_then_k ?_
      refine K_seq ?_
      refine K_seq ?_
      refine K_region ?_
      refine W_assign rfl rfl ?_
      refine W_nil ?_
      refine N_then_k ?_
      refine K_block ?_
      refine K_loop (σ := Nat) [2, 3, 4, 13, 14, 15, 16, 17, 18, 19, 20, 21, 22, 23, 24, 25, 26, 27, 28, 29, 30, 31, 32, 33, 34, 35, 36, 37, 38, 39, 40, 41, 42, 43, 44, 45, 46, 47, 48, 49, 50, 51, 52, 53, 54, 55, 56, 57, 58, 59]
          (fun k => [(3, .int .i64 k)])
          (fun k w => Hp w0 [] [] w ∧ k ≤ s.length)
          (fun k => s.length - k) (0) ?_ ?_ ?_
      · repeat' (first | exact sub_lst_nil (sub_nil _) | refine sub_lst rfl ?_ | (refine sub_lst_eq rfl ?_ ?_; · first | rfl | (simp; done) | (congr 1; omega)))
      · exact ⟨hp, Nat.zero_le _⟩
      · intro k w hJ
        clear hp
        obtain ⟨hp, hle⟩ := hJ
        rcases Nat.lt_or_ge k s.length with hlt | hge
        all_goals (
         refine K_seq ?_
         refine K_seq ?_
         refine K_region ?_
         refine W_move rfl rfl ?_
         refine W_move rfl rfl ?_
         refine W_len_s Try.underlying9 rfl rfl ?_
         first
           | (refine W_lss_t rfl rfl ?_ rfl ?_; (focus (omega)))
           | (refine W_lss_f rfl rfl ?_ rfl ?_; (focus (omega)))
           | (refine W_lss rfl rfl rfl ?_)
         refine W_nil ?_
         refine N_then_k ?_
         first
           | refine K_cond_d rfl (fun hc3 => ?_) (fun hc3 => ?_)
           | refine K_cond_n rfl (fun hc3 => ?_) (fun hc3 => ?_)
           | refine K_cond_nb rfl (fun hc3 => ?_) (fun hc3 => ?_)
           | refine K_cond_t rfl (fun hc3 => ?_) (fun hc3 => ?_)
         · try (exfalso; first | contradiction | omega)
           all_goals (
            refine K_skip ?_
            refine N_then_k ?_
            refine K_seq ?_
            refine K_block ?_
            refine K_seq ?_
            refine K_region ?_
            obtain ⟨c, hc⟩ : ∃ c, s[k]? = some c := ⟨_, List.getElem?_eq_getElem hlt⟩
            rcases nest_cases c with ⟨hu, ht, hp', hf, hl, hd⟩ | ⟨hu, ht, hp', hf, hl, hd⟩ | ⟨hu, ht, hp', hf, hl, hd⟩ | ⟨hu, ht, hp', hf, hl, hd⟩ | ⟨hu, ht, hp', hf, hl, hd⟩ | ⟨hu, ht, hp', hf, hl, hd⟩
            all_goals (
             refine W_move rfl rfl ?_
             refine W_move rfl rfl ?_
             refine W_index_s Try.underlying9 rfl rfl ?_ (by first | assumption | exact rfl | exact idx_getD (by first | omega | (simp; omega))) rfl ?_
             (focus (omega))
             refine W_assign rfl rfl ?_
             refine W_nil ?_
             refine N_then_k ?_
             refine K_seq ?_
             refine K_region ?_
             refine W_move rfl rfl ?_
             refine W_pcall hp rfl ((unreserved_spec c).eq hu) rfl ?_
             clear hp; intro w hp
             refine W_move rfl rfl ?_
             first
               | refine W_guard_lit_t rfl ?_
               | refine W_guard_lit_f rfl ?_
               | refine W_guard_lit_u rfl ?_
               | refine W_guard_split_d rfl rfl rfl (fun hg4 => ?_) (fun hg4 => ?_)
               | refine W_guard_split_n rfl rfl rfl (fun hg4 => ?_) (fun hg4 => ?_)
               | refine W_guard_split_nb rfl rfl rfl (fun hg4 => ?_) (fun hg4 => ?_)
               | refine W_guard_split rfl rfl rfl (fun hg4 => ?_) (fun hg4 => ?_)
             all_goals try (exfalso; first | contradiction | omega)
             all_goals (
              first
                | (iterate 4 refine W_guard_no rfl rfl rfl ?_)
                | (iterate 4 refine W_guard_un rfl rfl ?_)
                | (refine W_guard_yes rfl ?_
                   refine W_move rfl rfl ?_
                   refine W_guard_yes rfl ?_
                   refine W_pcall hp rfl ((path_spec c).eq hp') rfl ?_
                   clear hp; intro w hp
                   refine W_guard_yes rfl ?_
                   first
                     | (refine W_not_t rfl rfl ?_)
                     | (refine W_not_f rfl rfl ?_)
                     | (refine W_not rfl rfl ?_)
                   refine W_guard_yes rfl ?_
                   refine W_move rfl rfl ?_)
              first
                | refine W_guard_lit_t rfl ?_
                | refine W_guard_lit_f rfl ?_
                | refine W_guard_lit_u rfl ?_
                | refine W_guard_split_d rfl rfl rfl (fun hg5 => ?_) (fun hg5 => ?_)
                | refine W_guard_split_n rfl rfl rfl (fun hg5 => ?_) (fun hg5 => ?_)
                | refine W_guard_split_nb rfl rfl rfl (fun hg5 => ?_) (fun hg5 => ?_)
                | refine W_guard_split rfl rfl rfl (fun hg5 => ?_) (fun hg5 => ?_)
              all_goals try (exfalso; first | contradiction | omega)
              all_goals (
               first
                 | (iterate 3 refine W_guard_no rfl rfl rfl ?_)
                 | (iterate 3 refine W_guard_un rfl rfl ?_)
                 | (refine W_guard_yes rfl ?_
                    refine W_move rfl rfl ?_
                    refine W_guard_yes rfl ?_
                    refine W_pcall hp rfl ((token_spec c).eq ht) rfl ?_
                    clear hp; intro w hp
                    refine W_guard_yes rfl ?_
                    first
                      | (refine W_not_t rfl rfl ?_)
                      | (refine W_not_f rfl rfl ?_)
                      | (refine W_not rfl rfl ?_))
               first
                 | (refine W_guard_no rfl rfl rfl ?_)
                 | (refine W_guard_un rfl rfl ?_)
                 | (refine W_guard_yes rfl ?_
                    first
                      | (refine W_pick_t rfl rfl rfl ?_)
                      | (refine W_pick_f rfl rfl rfl ?_)
                      | (refine W_pick_b rfl rfl rfl rfl ?_))
               first
                 | (refine W_pick_t rfl rfl rfl ?_)
                 | (refine W_pick_f rfl rfl rfl ?_)
                 | (refine W_pick_b rfl rfl rfl rfl ?_)
               refine W_move rfl rfl ?_
               first
                 | refine W_guard_lit_t rfl ?_
                 | refine W_guard_lit_f rfl ?_
                 | refine W_guard_lit_u rfl ?_
                 | refine W_guard_split_d rfl rfl rfl (fun hg6 => ?_) (fun hg6 => ?_)
                 | refine W_guard_split_n rfl rfl rfl (fun hg6 => ?_) (fun hg6 => ?_)
                 | refine W_guard_split_nb rfl rfl rfl (fun hg6 => ?_) (fun hg6 => ?_)
                 | refine W_guard_split rfl rfl rfl (fun hg6 => ?_) (fun hg6 => ?_)
               all_goals try (exfalso; first | contradiction | omega)
               all_goals (
                first
                  | (iterate 3 refine W_guard_no rfl rfl rfl ?_)
                  | (iterate 3 refine W_guard_un rfl rfl ?_)
                  | (refine W_guard_yes rfl ?_
                     refine W_move rfl rfl ?_
                     refine W_guard_yes rfl ?_
                     refine W_pcall hp rfl ((token_spec c).eq ht) rfl ?_
                     clear hp; intro w hp
                     refine W_guard_yes rfl ?_
                     refine W_move rfl rfl ?_)
                first
                  | refine W_guard_lit_t rfl ?_
                  | refine W_guard_lit_f rfl ?_
                  | refine W_guard_lit_u rfl ?_
                  | refine W_guard_split_d rfl rfl rfl (fun hg7 => ?_) (fun hg7 => ?_)
                  | refine W_guard_split_n rfl rfl rfl (fun hg7 => ?_) (fun hg7 => ?_)
                  | refine W_guard_split_nb rfl rfl rfl (fun hg7 => ?_) (fun hg7 => ?_)
                  | refine W_guard_split rfl rfl rfl (fun hg7 => ?_) (fun hg7 => ?_)
                all_goals try (exfalso; first | contradiction | omega)
                all_goals (
                 first
                   | (iterate 2 refine W_guard_no rfl rfl rfl ?_)
                   | (iterate 2 refine W_guard_un rfl rfl ?_)
                   | (refine W_guard_yes rfl ?_
                      refine W_move rfl rfl ?_
                      refine W_guard_yes rfl ?_
                      refine W_pcall hp rfl ((path_spec c).eq hp') rfl ?_
                      clear hp; intro w hp)
                 first
                   | (iterate 2 refine W_guard_no rfl rfl rfl ?_)
                   | (iterate 2 refine W_guard_un rfl rfl ?_)
                   | (refine W_guard_yes rfl ?_
                      first
                        | (refine W_pick_t rfl rfl rfl ?_)
                        | (refine W_pick_f rfl rfl rfl ?_)
                        | (refine W_pick_b rfl rfl rfl rfl ?_)
                      refine W_guard_yes rfl ?_
                      refine W_move rfl rfl ?_)
                 first
                   | refine W_guard_lit_t rfl ?_
                   | refine W_guard_lit_f rfl ?_
                   | refine W_guard_lit_u rfl ?_
                   | refine W_guard_split_d rfl rfl rfl (fun hg8 => ?_) (fun hg8 => ?_)
                   | refine W_guard_split_n rfl rfl rfl (fun hg8 => ?_) (fun hg8 => ?_)
                   | refine W_guard_split_nb rfl rfl rfl (fun hg8 => ?_) (fun hg8 => ?_)
                   | refine W_guard_split rfl rfl rfl (fun hg8 => ?_) (fun hg8 => ?_)
                 all_goals try (exfalso; first | contradiction | omega)
                 all_goals (
                  first
                    | (iterate 3 refine W_guard_no rfl rfl rfl ?_)
                    | (iterate 3 refine W_guard_un rfl rfl ?_)
                    | (refine W_guard_yes rfl ?_
                       refine W_move rfl rfl ?_
                       refine W_guard_yes rfl ?_
                       refine W_pcall hp rfl ((field_spec c).eq hf) rfl ?_
                       clear hp; intro w hp
                       refine W_guard_yes rfl ?_
                       first
                         | (refine W_not_t rfl rfl ?_)
                         | (refine W_not_f rfl rfl ?_)
                         | (refine W_not rfl rfl ?_))
                  first
                    | (refine W_guard_no rfl rfl rfl ?_)
                    | (refine W_guard_un rfl rfl ?_)
                    | (refine W_guard_yes rfl ?_
                       first
                         | (refine W_pick_t rfl rfl rfl ?_)
                         | (refine W_pick_f rfl rfl rfl ?_)
                         | (refine W_pick_b rfl rfl rfl rfl ?_))
                  first
                    | (refine W_pick_t rfl rfl rfl ?_)
                    | (refine W_pick_f rfl rfl rfl ?_)
                    | (refine W_pick_b rfl rfl rfl rfl ?_)
                  refine W_move rfl rfl ?_
                  first
                    | refine W_guard_lit_t rfl ?_
                    | refine W_guard_lit_f rfl ?_
                    | refine W_guard_lit_u rfl ?_
                    | refine W_guard_split_d rfl rfl rfl (fun hg9 => ?_) (fun hg9 => ?_)
                    | refine W_guard_split_n rfl rfl rfl (fun hg9 => ?_) (fun hg9 => ?_)
                    | refine W_guard_split_nb rfl rfl rfl (fun hg9 => ?_) (fun hg9 => ?_)
                    | refine W_guard_split rfl rfl rfl (fun hg9 => ?_) (fun hg9 => ?_)
                  all_goals try (exfalso; first | contradiction | omega)
                  all_goals (
                   first
                     | (iterate 3 refine W_guard_no rfl rfl rfl ?_)
                     | (iterate 3 refine W_guard_un rfl rfl ?_)
                     | (refine W_guard_yes rfl ?_
                        refine W_move rfl rfl ?_
                        refine W_guard_yes rfl ?_
                        refine W_pcall hp rfl (letter_spec c) rfl ?_
                        clear hp; intro w hp
                        refine W_guard_yes rfl ?_
                        refine W_move rfl rfl ?_)
                   first
                     | refine W_guard_lit_t rfl ?_
                     | refine W_guard_lit_f rfl ?_
                     | refine W_guard_lit_u rfl ?_
                     | refine W_guard_split_d rfl rfl rfl (fun hg10 => ?_) (fun hg10 => ?_)
                     | refine W_guard_split_n rfl rfl rfl (fun hg10 => ?_) (fun hg10 => ?_)
                     | refine W_guard_split_nb rfl rfl rfl (fun hg10 => ?_) (fun hg10 => ?_)
                     | refine W_guard_split rfl rfl rfl (fun hg10 => ?_) (fun hg10 => ?_)
                   all_goals try (exfalso; first | contradiction | omega)
                   all_goals (
                    first
                      | (iterate 2 refine W_guard_no rfl rfl rfl ?_)
                      | (iterate 2 refine W_guard_un rfl rfl ?_)
                      | (refine W_guard_yes rfl ?_
                         refine W_move rfl rfl ?_
                         refine W_guard_yes rfl ?_
                         refine W_pcall hp rfl (digit_spec c) rfl ?_
                         clear hp; intro w hp)
                    first
                      | (iterate 2 refine W_guard_no rfl rfl rfl ?_)
                      | (iterate 2 refine W_guard_un rfl rfl ?_)
                      | (refine W_guard_yes rfl ?_
                         first
                           | (refine W_pick_t rfl rfl rfl ?_)
                           | (refine W_pick_f rfl rfl rfl ?_)
                           | (refine W_pick_b rfl rfl rfl rfl ?_)
                         refine W_guard_yes rfl ?_
                         refine W_move rfl rfl ?_)
                    first
                      | refine W_guard_lit_t rfl ?_
                      | refine W_guard_lit_f rfl ?_
                      | refine W_guard_lit_u rfl ?_
                      | refine W_guard_split_d rfl rfl rfl (fun hg11 => ?_) (fun hg11 => ?_)
                      | refine W_guard_split_n rfl rfl rfl (fun hg11 => ?_) (fun hg11 => ?_)
                      | refine W_guard_split_nb rfl rfl rfl (fun hg11 => ?_) (fun hg11 => ?_)
                      | refine W_guard_split rfl rfl rfl (fun hg11 => ?_) (fun hg11 => ?_)
                    all_goals try (exfalso; first | contradiction | omega)
                    all_goals (
                     first
                       | (iterate 3 refine W_guard_no rfl rfl rfl ?_)
                       | (iterate 3 refine W_guard_un rfl rfl ?_)
                       | (refine W_guard_yes rfl ?_
                          refine W_move rfl rfl ?_
                          refine W_guard_yes rfl ?_
                          refine W_pcall hp rfl ((unreserved_spec c).eq hu) rfl ?_
                          clear hp; intro w hp
                          refine W_guard_yes rfl ?_
                          first
                            | (refine W_not_t rfl rfl ?_)
                            | (refine W_not_f rfl rfl ?_)
                            | (refine W_not rfl rfl ?_))
                     first
                       | (refine W_guard_no rfl rfl rfl ?_)
                       | (refine W_guard_un rfl rfl ?_)
                       | (refine W_guard_yes rfl ?_
                          first
                            | (refine W_pick_t rfl rfl rfl ?_)
                            | (refine W_pick_f rfl rfl rfl ?_)
                            | (refine W_pick_b rfl rfl rfl rfl ?_))
                     first
                       | (refine W_pick_t rfl rfl rfl ?_)
                       | (refine W_pick_f rfl rfl rfl ?_)
                       | (refine W_pick_b rfl rfl rfl rfl ?_)
                     refine W_nil ?_
                     refine N_then_k ?_
                     first
                       | refine K_cond_d rfl (fun hc12 => ?_) (fun hc12 => ?_)
                       | refine K_cond_n rfl (fun hc12 => ?_) (fun hc12 => ?_)
                       | refine K_cond_nb rfl (fun hc12 => ?_) (fun hc12 => ?_)
                       | refine K_cond_t rfl (fun hc12 => ?_) (fun hc12 => ?_)
                     · try (exfalso; first | contradiction | omega)
                       all_goals (
                        refine K_seq ?_
                        refine K_region ?_
                        refine W_assign rfl rfl ?_
                        refine W_nil ?_
                        refine N_then_k ?_
                        refine K_ret ?_
                        refine N_block_ret ?_
                        refine N_then_ret ?_
                        refine N_then_ret ?_
                        refine N_block_ret ?_
                        refine N_then_ret ?_
                        refine N_done1 (.inr rfl) rfl rfl ?_
                        refine ⟨_, rfl, ?_, hp.nil⟩
                        first
                          | rfl
                          | (have h2 := htf (by assumption)
                             first | exact congrArg Value.bool (decide_eq_true (by omega)) | (exfalso; simp_all)))
                     · try (exfalso; first | contradiction | omega)
                       all_goals (
                        refine K_skip ?_
                        refine N_block_normal ?_
                        refine N_then_k ?_
                        refine K_region ?_
                        refine W_move rfl rfl ?_
                        first
                          | (refine W_add rfl rfl (wr_i64 ?_) rfl ?_; (focus (omega)))
                          | (refine W_add rfl rfl rfl rfl ?_)
                        refine W_assign rfl rfl ?_
                        refine W_nil ?_
                        refine N_again (k + 1) (sub_end ?_ ?_) ?_ ?_
                        · repeat' (first | exact sub_lst_nil (sub_nil _) | refine sub_lst rfl ?_ | (refine sub_lst_eq rfl ?_ ?_; · first | rfl | (simp; done) | (congr 1; omega)))
                        · repeat' (first | exact sub_refl _ | exact sub_strip _ _ | refine sub_s_cons rfl ?_ | refine sub_s_lst rfl ?_ | refine sub_s_strip rfl ?_)
                        · exact ⟨hp, hlt⟩
                        · omega)))))))))))
         · try (exfalso; first | contradiction | omega)
           all_goals (
            refine K_exit ?_
            refine N_then_exit ?_
            refine N_then_exit ?_
            refine N_block_exit ?_
            refine N_then_k ?_
            refine K_seq ?_
            refine K_region ?_
            have htf := token_field (s := s)
            refine W_move rfl rfl ?_
            refine W_pcall hp rfl (isToken_spec s (by omega)) rfl ?_
            clear hp; intro w hp
            first
              | (refine W_not_t rfl rfl ?_)
              | (refine W_not_f rfl rfl ?_)
              | (refine W_not rfl rfl ?_)
            refine W_move rfl rfl ?_
            first
              | refine W_guard_lit_t rfl ?_
              | refine W_guard_lit_f rfl ?_
              | refine W_guard_lit_u rfl ?_
              | refine W_guard_split_d rfl rfl rfl (fun hg13 => ?_) (fun hg13 => ?_)
              | refine W_guard_split_n rfl rfl rfl (fun hg13 => ?_) (fun hg13 => ?_)
              | refine W_guard_split_nb rfl rfl rfl (fun hg13 => ?_) (fun hg13 => ?_)
              | refine W_guard_split rfl rfl rfl (fun hg13 => ?_) (fun hg13 => ?_)
            all_goals try (exfalso; first | contradiction | omega)
            all_goals (
             first
               | (iterate 3 refine W_guard_no rfl rfl rfl ?_)
               | (iterate 3 refine W_guard_un rfl rfl ?_)
               | (refine W_guard_yes rfl ?_
                  refine W_move rfl rfl ?_
                  refine W_guard_yes rfl ?_
                  refine W_pcall hp rfl (all_field s (by omega)) rfl ?_
                  clear hp; intro w hp
                  refine W_guard_yes rfl ?_
                  refine W_move rfl rfl ?_)
             first
               | refine W_guard_lit_t rfl ?_
               | refine W_guard_lit_f rfl ?_
               | refine W_guard_lit_u rfl ?_
               | refine W_guard_split_d rfl rfl rfl (fun hg14 => ?_) (fun hg14 => ?_)
               | refine W_guard_split_n rfl rfl rfl (fun hg14 => ?_) (fun hg14 => ?_)
               | refine W_guard_split_nb rfl rfl rfl (fun hg14 => ?_) (fun hg14 => ?_)
               | refine W_guard_split rfl rfl rfl (fun hg14 => ?_) (fun hg14 => ?_)
             all_goals try (exfalso; first | contradiction | omega)
             all_goals (
              first
                | (iterate 3 refine W_guard_no rfl rfl rfl ?_)
                | (iterate 3 refine W_guard_un rfl rfl ?_)
                | (refine W_guard_yes rfl ?_
                   refine W_move rfl rfl ?_
                   refine W_guard_yes rfl ?_
                   refine W_len_s Try.underlying9 rfl rfl ?_
                   refine W_guard_yes rfl ?_
                   first
                     | (refine W_gtr_t rfl rfl ?_ rfl ?_; (focus (omega)))
                     | (refine W_gtr_f rfl rfl ?_ rfl ?_; (focus (omega)))
                     | (refine W_gtr rfl rfl rfl ?_))
              first
                | (refine W_guard_no rfl rfl rfl ?_)
                | (refine W_guard_un rfl rfl ?_)
                | (refine W_guard_yes rfl ?_
                   first
                     | (refine W_pick_t rfl rfl rfl ?_)
                     | (refine W_pick_f rfl rfl rfl ?_)
                     | (refine W_pick_b rfl rfl rfl rfl ?_))
              first
                | (refine W_pick_t rfl rfl rfl ?_)
                | (refine W_pick_f rfl rfl rfl ?_)
                | (refine W_pick_b rfl rfl rfl rfl ?_)
              refine W_assign rfl rfl ?_
              refine W_nil ?_
              refine N_then_k ?_
              refine K_ret ?_
              refine N_done1 (.inr rfl) rfl rfl ?_
              refine ⟨_, rfl, ?_, hp.nil⟩
              first
                | rfl
                | (have h2 := htf (by assumption)
                   first | exact congrArg Value.bool (decide_eq_true (by omega)) | (exfalso; simp_all))))))))

theorem OctetClasses_at (c : Int) (h0 : 0 ≤ c) (h1 : c ≤ 255) (w : World) : PureAt Try.prog 3 [.int .u8 c] (.bool true) w := by
  obtain ⟨n, rfl⟩ : ∃ n : UInt8, (n.toNat : Int) = c := ⟨UInt8.ofNat c.toNat, by simp [UInt8.toNat_ofNat']; omega⟩
  exact (OctetClasses_walk n).at w

end Go.Proofs.Ytjkbceclfmjmfaa
