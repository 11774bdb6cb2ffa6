/-
  The fixed examples of package decimal, and the laws, walked.
-/
import Derived.Test.YthkdgfflgamegaaDoorTxt
namespace Go.Proofs.YthkdgfflgamegaaDoor
open Go.Sx Go.RowKit
set_option linter.unusedVariables false
set_option linter.unusedSimpArgs false
set_option maxRecDepth 100000

theorem readR_cases (b most : Int) (s : List UInt8) : (∃ n, readR b most s = (n, 0, 0)) ∨ (∃ a, readR b most s = (0, 400, a)) ∨ readR b most s = (0, 413, 0) := by
  unfold readR
  split
  · exact .inr (.inl ⟨_, rfl⟩)
  · split
    · exact .inr (.inl ⟨_, rfl⟩)
    · split
      · exact .inr (.inr rfl)
      · exact .inl ⟨_, rfl⟩
theorem rV_ok {b most n : Int} {s : List UInt8} (h : readR b most s = (n, 0, 0)) : readV b most s = .tuple #[.int .i64 n, .nilIface] := readV_of h
theorem rV_bad {b most a : Int} {s : List UInt8} (h : readR b most s = (0, 400, a)) : readV b most s = .tuple #[.int .i64 0, fltV 400 a] := readV_of h
theorem rV_over {b most : Int} {s : List UInt8} (h : readR b most s = (0, 413, 0)) : readV b most s = .tuple #[.int .i64 0, fltV 413 0] := readV_of h
theorem rT_of {b most n st a : Int} {s : List UInt8} (h : readR b most s = (n, st, a)) : Value.tuple #[.int .i64 (readR b most s).1, .int .i64 (readR b most s).2.1, .int .i64 (readR b most s).2.2] = .tuple #[.int .i64 n, .int .i64 st, .int .i64 a] := by rw [h]

theorem wrong_spec (w0 : World) (hg : ErrT w0) (s k : Int) : PureAt Tryd.prog 10 [fltV s k, .int .i64 s, .int .i64 k] (.bool true) w0 := by
  refine PureAt.intro go10 Tryd.func10 rfl rfl fun hp => ?_
  refine (fun (hk : ∀ w, Hp w0 [] [] w → K _ _ _ _ _ w) => hk w0 hp) fun w hp => ?_
  refine K_seq ?_
  refine K_region ?_
  refine W_assign rfl rfl ?_
  refine W_nil ?_
  refine N_then_k ?_
  refine K_seq ?_
  refine K_region ?_
  refine W_move rfl rfl ?_
  refine W_acall hp rfl ((fault_status w (hg.keep hp) s k)) rfl ?_
  clear hp; intro w hp
  refine W_move rfl rfl ?_
  refine W_extract rfl rfl rfl ?_
  refine W_extract rfl rfl rfl ?_
  refine W_assign rfl rfl ?_
  refine W_assign rfl rfl ?_
  refine W_nil ?_
  refine N_then_k ?_
  refine K_seq ?_
  refine K_region ?_
  refine W_move rfl rfl ?_
  refine W_acall hp rfl ((fault_at w (hg.keep hp) s k)) rfl ?_
  clear hp; intro w hp
  refine W_move rfl rfl ?_
  refine W_extract rfl rfl rfl ?_
  refine W_extract rfl rfl rfl ?_
  refine W_assign rfl rfl ?_
  refine W_assign rfl rfl ?_
  refine W_nil ?_
  refine N_then_k ?_
  refine K_seq ?_
  refine K_region ?_
  refine W_move rfl rfl ?_
  refine W_move rfl rfl ?_
  first
    | refine W_guard_lit_t rfl ?_
    | refine W_guard_lit_f rfl ?_
    | refine W_guard_lit_u rfl ?_
    | refine W_guard_split_d rfl rfl rfl (fun hg1 => ?_) (fun hg1 => ?_)
    | refine W_guard_split_n rfl rfl rfl (fun hg1 => ?_) (fun hg1 => ?_)
    | refine W_guard_split_nb rfl rfl rfl (fun hg1 => ?_) (fun hg1 => ?_)
    | refine W_guard_split rfl rfl rfl (fun hg1 => ?_) (fun hg1 => ?_)
  all_goals try (exfalso; first | omega | (simp only [Bool.false_eq_true, reduceCtorEq] at hg1; done) | (refine absurd hg1 ?_; with_reducible assumption) | (refine absurd ?_ hg1; with_reducible assumption))
  all_goals (
   first
     | (iterate 3 refine W_guard_no rfl rfl rfl ?_)
     | (iterate 3 refine W_guard_un rfl rfl ?_)
     | (refine W_guard_yes rfl ?_
        refine W_move rfl rfl ?_
        refine W_guard_yes rfl ?_
        refine W_move rfl rfl ?_
        refine W_guard_yes rfl ?_
        first
          | (refine W_eql_t rfl rfl ?_ rfl ?_; (focus (omega)))
          | (refine W_eql_f rfl rfl ?_ rfl ?_; (focus (omega)))
          | (refine W_eql rfl rfl rfl ?_))
   first
     | (refine W_pick_t rfl rfl rfl ?_)
     | (refine W_pick_f rfl rfl rfl ?_)
     | (refine W_pick_b rfl rfl rfl rfl ?_)
   refine W_move rfl rfl ?_
   first
     | refine W_guard_lit_t rfl ?_
     | refine W_guard_lit_f rfl ?_
     | refine W_guard_lit_u rfl ?_
     | refine W_guard_split_d rfl rfl rfl (fun hg2 => ?_) (fun hg2 => ?_)
     | refine W_guard_split_n rfl rfl rfl (fun hg2 => ?_) (fun hg2 => ?_)
     | refine W_guard_split_nb rfl rfl rfl (fun hg2 => ?_) (fun hg2 => ?_)
     | refine W_guard_split rfl rfl rfl (fun hg2 => ?_) (fun hg2 => ?_)
   all_goals try (exfalso; first | omega | (simp only [Bool.false_eq_true, reduceCtorEq] at hg2; done) | (refine absurd hg2 ?_; with_reducible assumption) | (refine absurd ?_ hg2; with_reducible assumption))
   all_goals (
    first
      | (refine W_guard_no rfl rfl rfl ?_)
      | (refine W_guard_un rfl rfl ?_)
      | (refine W_guard_yes rfl ?_
         refine W_move rfl rfl ?_)
    first
      | (refine W_pick_t rfl rfl rfl ?_)
      | (refine W_pick_f rfl rfl rfl ?_)
      | (refine W_pick_b rfl rfl rfl rfl ?_)
    refine W_move rfl rfl ?_
    first
      | refine W_guard_lit_t rfl ?_
      | refine W_guard_lit_f rfl ?_
      | refine W_guard_lit_u rfl ?_
      | refine W_guard_split_d rfl rfl rfl (fun hg3 => ?_) (fun hg3 => ?_)
      | refine W_guard_split_n rfl rfl rfl (fun hg3 => ?_) (fun hg3 => ?_)
      | refine W_guard_split_nb rfl rfl rfl (fun hg3 => ?_) (fun hg3 => ?_)
      | refine W_guard_split rfl rfl rfl (fun hg3 => ?_) (fun hg3 => ?_)
    all_goals try (exfalso; first | omega | (simp only [Bool.false_eq_true, reduceCtorEq] at hg3; done) | (refine absurd hg3 ?_; with_reducible assumption) | (refine absurd ?_ hg3; with_reducible assumption))
    all_goals (
     first
       | (iterate 3 refine W_guard_no rfl rfl rfl ?_)
       | (iterate 3 refine W_guard_un rfl rfl ?_)
       | (refine W_guard_yes rfl ?_
          refine W_move rfl rfl ?_
          refine W_guard_yes rfl ?_
          refine W_move rfl rfl ?_
          refine W_guard_yes rfl ?_
          first
            | (refine W_eql_t rfl rfl ?_ rfl ?_; (focus (omega)))
            | (refine W_eql_f rfl rfl ?_ rfl ?_; (focus (omega)))
            | (refine W_eql rfl rfl rfl ?_))
     first
       | (refine W_pick_t rfl rfl rfl ?_)
       | (refine W_pick_f rfl rfl rfl ?_)
       | (refine W_pick_b rfl rfl rfl rfl ?_)
     refine W_assign rfl rfl ?_
     refine W_nil ?_
     refine N_then_k ?_
     refine K_ret ?_
     refine N_done1 (.inr rfl) rfl rfl ?_
     exact ⟨_, rfl, rfl, hp.nil⟩)))

theorem text_120 : textN 120 = [49, 50, 48] := by
  rw [textN_ge (by decide), textN_ge (n := 120 / 10) (by decide), textN_lt (n := 120 / 10 / 10) (by decide)]; decide

theorem awake_spec (w0 : World) (hg : ErrT w0) : PureAt Tryd.prog 7 [] (.bool true) w0 := by
  refine PureAt.intro go7 Tryd.func7 rfl rfl fun hp => ?_
  refine (fun (hk : ∀ w, Hp w0 [] [] w → K _ _ _ _ _ w) => hk w0 hp) fun w hp => ?_
  refine K_seq ?_
  refine K_region ?_
  refine W_assign rfl rfl ?_
  refine W_nil ?_
  refine N_then_k ?_
  refine K_seq ?_
  refine K_region ?_
  refine W_pcall hp rfl ((parse_spec [48, 48, 55] 100 (by decide) (by decide) (by decide)).eq (rV_ok (n := 7) (by decide +kernel))) rfl ?_
  clear hp; intro w hp
  refine W_move rfl rfl ?_
  refine W_extract rfl rfl rfl ?_
  refine W_extract rfl rfl rfl ?_
  refine W_assign rfl rfl ?_
  refine W_assign rfl rfl ?_
  refine W_nil ?_
  refine N_then_k ?_
  refine K_seq ?_
  refine K_region ?_
  refine W_pcall hp rfl ((parseHex_spec [102, 102] 300 (by decide) (by decide) (by decide)).eq (rV_ok (n := 255) (by decide +kernel))) rfl ?_
  clear hp; intro w hp
  refine W_move rfl rfl ?_
  refine W_extract rfl rfl rfl ?_
  refine W_extract rfl rfl rfl ?_
  refine W_assign rfl rfl ?_
  refine W_assign rfl rfl ?_
  refine W_nil ?_
  refine N_then_k ?_
  refine K_seq ?_
  refine K_region ?_
  refine W_pcall hp rfl ((parse_spec [49, 50, 97] 100 (by decide) (by decide) (by decide)).eq (rV_bad (a := 2) (by decide +kernel))) rfl ?_
  clear hp; intro w hp
  refine W_move rfl rfl ?_
  refine W_extract rfl rfl rfl ?_
  refine W_extract rfl rfl rfl ?_
  refine W_assign rfl rfl ?_
  refine W_assign rfl rfl ?_
  refine W_nil ?_
  refine N_then_k ?_
  refine K_seq ?_
  refine K_region ?_
  refine W_pcall hp rfl ((parse_spec [49, 48, 49] 100 (by decide) (by decide) (by decide)).eq (rV_over (by decide +kernel))) rfl ?_
  clear hp; intro w hp
  refine W_move rfl rfl ?_
  refine W_extract rfl rfl rfl ?_
  refine W_extract rfl rfl rfl ?_
  refine W_assign rfl rfl ?_
  refine W_assign rfl rfl ?_
  refine W_nil ?_
  refine N_then_k ?_
  refine K_seq ?_
  refine K_region ?_
  refine W_pcall hp rfl (dsum_ok 2 3 5 (by decide) (by decide) (by decide) (by decide)) rfl ?_
  clear hp; intro w hp
  refine W_move rfl rfl ?_
  refine W_extract rfl rfl rfl ?_
  refine W_extract rfl rfl rfl ?_
  refine W_assign rfl rfl ?_
  refine W_assign rfl rfl ?_
  refine W_nil ?_
  refine N_then_k ?_
  refine K_seq ?_
  refine K_region ?_
  refine W_pcall hp rfl (dsum_no 2 4 5 (by decide) (by decide) (by decide) (by decide)) rfl ?_
  clear hp; intro w hp
  refine W_move rfl rfl ?_
  refine W_extract rfl rfl rfl ?_
  refine W_extract rfl rfl rfl ?_
  refine W_assign rfl rfl ?_
  refine W_assign rfl rfl ?_
  refine W_nil ?_
  refine N_then_k ?_
  refine K_seq ?_
  refine K_region ?_
  refine W_move rfl rfl ?_
  first
    | (refine W_eql_t rfl rfl ?_ rfl ?_; (focus (omega)))
    | (refine W_eql_f rfl rfl ?_ rfl ?_; (focus (omega)))
    | (refine W_eql rfl rfl rfl ?_)
  refine W_move rfl rfl ?_
  first
    | refine W_guard_lit_t rfl ?_
    | refine W_guard_lit_f rfl ?_
    | refine W_guard_lit_u rfl ?_
    | refine W_guard_split_d rfl rfl rfl (fun hg1 => ?_) (fun hg1 => ?_)
    | refine W_guard_split_n rfl rfl rfl (fun hg1 => ?_) (fun hg1 => ?_)
    | refine W_guard_split_nb rfl rfl rfl (fun hg1 => ?_) (fun hg1 => ?_)
    | refine W_guard_split rfl rfl rfl (fun hg1 => ?_) (fun hg1 => ?_)
  all_goals try (exfalso; first | omega | (simp only [Bool.false_eq_true, reduceCtorEq] at hg1; done) | (refine absurd hg1 ?_; with_reducible assumption) | (refine absurd ?_ hg1; with_reducible assumption))
  all_goals (
   first
     | (iterate 2 refine W_guard_no rfl rfl rfl ?_)
     | (iterate 2 refine W_guard_un rfl rfl ?_)
     | (refine W_guard_yes rfl ?_
        refine W_move rfl rfl ?_
        refine W_guard_yes rfl ?_
        refine W_val rfl (inb_of rfl) (R_bin (a := .nilIface) (v := .bool true) rfl rfl ?_) ?_
        · kernel_rfl)
   first
     | (refine W_pick_t rfl rfl rfl ?_)
     | (refine W_pick_f rfl rfl rfl ?_)
     | (refine W_pick_b rfl rfl rfl rfl ?_)
   refine W_move rfl rfl ?_
   first
     | refine W_guard_lit_t rfl ?_
     | refine W_guard_lit_f rfl ?_
     | refine W_guard_lit_u rfl ?_
     | refine W_guard_split_d rfl rfl rfl (fun hg2 => ?_) (fun hg2 => ?_)
     | refine W_guard_split_n rfl rfl rfl (fun hg2 => ?_) (fun hg2 => ?_)
     | refine W_guard_split_nb rfl rfl rfl (fun hg2 => ?_) (fun hg2 => ?_)
     | refine W_guard_split rfl rfl rfl (fun hg2 => ?_) (fun hg2 => ?_)
   all_goals try (exfalso; first | omega | (simp only [Bool.false_eq_true, reduceCtorEq] at hg2; done) | (refine absurd hg2 ?_; with_reducible assumption) | (refine absurd ?_ hg2; with_reducible assumption))
   all_goals (
    first
      | (iterate 2 refine W_guard_no rfl rfl rfl ?_)
      | (iterate 2 refine W_guard_un rfl rfl ?_)
      | (refine W_guard_yes rfl ?_
         refine W_move rfl rfl ?_
         refine W_guard_yes rfl ?_
         first
           | (refine W_eql_t rfl rfl ?_ rfl ?_; (focus (omega)))
           | (refine W_eql_f rfl rfl ?_ rfl ?_; (focus (omega)))
           | (refine W_eql rfl rfl rfl ?_))
    first
      | (refine W_pick_t rfl rfl rfl ?_)
      | (refine W_pick_f rfl rfl rfl ?_)
      | (refine W_pick_b rfl rfl rfl rfl ?_)
    refine W_move rfl rfl ?_
    first
      | refine W_guard_lit_t rfl ?_
      | refine W_guard_lit_f rfl ?_
      | refine W_guard_lit_u rfl ?_
      | refine W_guard_split_d rfl rfl rfl (fun hg3 => ?_) (fun hg3 => ?_)
      | refine W_guard_split_n rfl rfl rfl (fun hg3 => ?_) (fun hg3 => ?_)
      | refine W_guard_split_nb rfl rfl rfl (fun hg3 => ?_) (fun hg3 => ?_)
      | refine W_guard_split rfl rfl rfl (fun hg3 => ?_) (fun hg3 => ?_)
    all_goals try (exfalso; first | omega | (simp only [Bool.false_eq_true, reduceCtorEq] at hg3; done) | (refine absurd hg3 ?_; with_reducible assumption) | (refine absurd ?_ hg3; with_reducible assumption))
    all_goals (
     first
       | (iterate 2 refine W_guard_no rfl rfl rfl ?_)
       | (iterate 2 refine W_guard_un rfl rfl ?_)
       | (refine W_guard_yes rfl ?_
          refine W_move rfl rfl ?_
          refine W_guard_yes rfl ?_
          refine W_val rfl (inb_of rfl) (R_bin (a := .nilIface) (v := .bool true) rfl rfl ?_) ?_
          · kernel_rfl)
     first
       | (refine W_pick_t rfl rfl rfl ?_)
       | (refine W_pick_f rfl rfl rfl ?_)
       | (refine W_pick_b rfl rfl rfl rfl ?_)
     refine W_move rfl rfl ?_
     first
       | refine W_guard_lit_t rfl ?_
       | refine W_guard_lit_f rfl ?_
       | refine W_guard_lit_u rfl ?_
       | refine W_guard_split_d rfl rfl rfl (fun hg4 => ?_) (fun hg4 => ?_)
       | refine W_guard_split_n rfl rfl rfl (fun hg4 => ?_) (fun hg4 => ?_)
       | refine W_guard_split_nb rfl rfl rfl (fun hg4 => ?_) (fun hg4 => ?_)
       | refine W_guard_split rfl rfl rfl (fun hg4 => ?_) (fun hg4 => ?_)
     all_goals try (exfalso; first | omega | (simp only [Bool.false_eq_true, reduceCtorEq] at hg4; done) | (refine absurd hg4 ?_; with_reducible assumption) | (refine absurd ?_ hg4; with_reducible assumption))
     all_goals (
      first
        | (iterate 2 refine W_guard_no rfl rfl rfl ?_)
        | (iterate 2 refine W_guard_un rfl rfl ?_)
        | (refine W_guard_yes rfl ?_
           refine W_move rfl rfl ?_
           refine W_guard_yes rfl ?_
           first
             | (refine W_acall hp rfl (wrong_spec w (hg.keep hp) 400 2) rfl ?_)
           clear hp; intro w hp)
      first
        | (refine W_pick_t rfl rfl rfl ?_)
        | (refine W_pick_f rfl rfl rfl ?_)
        | (refine W_pick_b rfl rfl rfl rfl ?_)
      refine W_move rfl rfl ?_
      first
        | refine W_guard_lit_t rfl ?_
        | refine W_guard_lit_f rfl ?_
        | refine W_guard_lit_u rfl ?_
        | refine W_guard_split_d rfl rfl rfl (fun hg5 => ?_) (fun hg5 => ?_)
        | refine W_guard_split_n rfl rfl rfl (fun hg5 => ?_) (fun hg5 => ?_)
        | refine W_guard_split_nb rfl rfl rfl (fun hg5 => ?_) (fun hg5 => ?_)
        | refine W_guard_split rfl rfl rfl (fun hg5 => ?_) (fun hg5 => ?_)
      all_goals try (exfalso; first | omega | (simp only [Bool.false_eq_true, reduceCtorEq] at hg5; done) | (refine absurd hg5 ?_; with_reducible assumption) | (refine absurd ?_ hg5; with_reducible assumption))
      all_goals (
       first
         | (iterate 2 refine W_guard_no rfl rfl rfl ?_)
         | (iterate 2 refine W_guard_un rfl rfl ?_)
         | (refine W_guard_yes rfl ?_
            refine W_move rfl rfl ?_
            refine W_guard_yes rfl ?_
            first
              | (refine W_acall hp rfl (wrong_spec w (hg.keep hp) 413 0) rfl ?_)
            clear hp; intro w hp)
       first
         | (refine W_pick_t rfl rfl rfl ?_)
         | (refine W_pick_f rfl rfl rfl ?_)
         | (refine W_pick_b rfl rfl rfl rfl ?_)
       refine W_move rfl rfl ?_
       first
         | refine W_guard_lit_t rfl ?_
         | refine W_guard_lit_f rfl ?_
         | refine W_guard_lit_u rfl ?_
         | refine W_guard_split_d rfl rfl rfl (fun hg6 => ?_) (fun hg6 => ?_)
         | refine W_guard_split_n rfl rfl rfl (fun hg6 => ?_) (fun hg6 => ?_)
         | refine W_guard_split_nb rfl rfl rfl (fun hg6 => ?_) (fun hg6 => ?_)
         | refine W_guard_split rfl rfl rfl (fun hg6 => ?_) (fun hg6 => ?_)
       all_goals try (exfalso; first | omega | (simp only [Bool.false_eq_true, reduceCtorEq] at hg6; done) | (refine absurd hg6 ?_; with_reducible assumption) | (refine absurd ?_ hg6; with_reducible assumption))
       all_goals (
        first
          | (iterate 2 refine W_guard_no rfl rfl rfl ?_)
          | (iterate 2 refine W_guard_un rfl rfl ?_)
          | (refine W_guard_yes rfl ?_
             refine W_move rfl rfl ?_
             refine W_guard_yes rfl ?_
             first
               | (refine W_eql_t rfl rfl ?_ rfl ?_; (focus (omega)))
               | (refine W_eql_f rfl rfl ?_ rfl ?_; (focus (omega)))
               | (refine W_eql rfl rfl rfl ?_))
        first
          | (refine W_pick_t rfl rfl rfl ?_)
          | (refine W_pick_f rfl rfl rfl ?_)
          | (refine W_pick_b rfl rfl rfl rfl ?_)
        refine W_move rfl rfl ?_
        first
          | refine W_guard_lit_t rfl ?_
          | refine W_guard_lit_f rfl ?_
          | refine W_guard_lit_u rfl ?_
          | refine W_guard_split_d rfl rfl rfl (fun hg7 => ?_) (fun hg7 => ?_)
          | refine W_guard_split_n rfl rfl rfl (fun hg7 => ?_) (fun hg7 => ?_)
          | refine W_guard_split_nb rfl rfl rfl (fun hg7 => ?_) (fun hg7 => ?_)
          | refine W_guard_split rfl rfl rfl (fun hg7 => ?_) (fun hg7 => ?_)
        all_goals try (exfalso; first | omega | (simp only [Bool.false_eq_true, reduceCtorEq] at hg7; done) | (refine absurd hg7 ?_; with_reducible assumption) | (refine absurd ?_ hg7; with_reducible assumption))
        all_goals (
         first
           | (refine W_guard_no rfl rfl rfl ?_)
           | (refine W_guard_un rfl rfl ?_)
           | (refine W_guard_yes rfl ?_
              refine W_move rfl rfl ?_)
         first
           | (refine W_pick_t rfl rfl rfl ?_)
           | (refine W_pick_f rfl rfl rfl ?_)
           | (refine W_pick_b rfl rfl rfl rfl ?_)
         refine W_move rfl rfl ?_
         first
           | refine W_guard_lit_t rfl ?_
           | refine W_guard_lit_f rfl ?_
           | refine W_guard_lit_u rfl ?_
           | refine W_guard_split_d rfl rfl rfl (fun hg8 => ?_) (fun hg8 => ?_)
           | refine W_guard_split_n rfl rfl rfl (fun hg8 => ?_) (fun hg8 => ?_)
           | refine W_guard_split_nb rfl rfl rfl (fun hg8 => ?_) (fun hg8 => ?_)
           | refine W_guard_split rfl rfl rfl (fun hg8 => ?_) (fun hg8 => ?_)
         all_goals try (exfalso; first | omega | (simp only [Bool.false_eq_true, reduceCtorEq] at hg8; done) | (refine absurd hg8 ?_; with_reducible assumption) | (refine absurd ?_ hg8; with_reducible assumption))
         all_goals (
          first
            | (iterate 2 refine W_guard_no rfl rfl rfl ?_)
            | (iterate 2 refine W_guard_un rfl rfl ?_)
            | (refine W_guard_yes rfl ?_
               refine W_move rfl rfl ?_
               refine W_guard_yes rfl ?_
               first
                 | (refine W_not_t rfl rfl ?_)
                 | (refine W_not_f rfl rfl ?_)
                 | (refine W_not rfl rfl ?_))
          first
            | (refine W_pick_t rfl rfl rfl ?_)
            | (refine W_pick_f rfl rfl rfl ?_)
            | (refine W_pick_b rfl rfl rfl rfl ?_)
          refine W_move rfl rfl ?_
          first
            | refine W_guard_lit_t rfl ?_
            | refine W_guard_lit_f rfl ?_
            | refine W_guard_lit_u rfl ?_
            | refine W_guard_split_d rfl rfl rfl (fun hg9 => ?_) (fun hg9 => ?_)
            | refine W_guard_split_n rfl rfl rfl (fun hg9 => ?_) (fun hg9 => ?_)
            | refine W_guard_split_nb rfl rfl rfl (fun hg9 => ?_) (fun hg9 => ?_)
            | refine W_guard_split rfl rfl rfl (fun hg9 => ?_) (fun hg9 => ?_)
          all_goals try (exfalso; first | omega | (simp only [Bool.false_eq_true, reduceCtorEq] at hg9; done) | (refine absurd hg9 ?_; with_reducible assumption) | (refine absurd ?_ hg9; with_reducible assumption))
          all_goals (
           first
             | (iterate 2 refine W_guard_no rfl rfl rfl ?_)
             | (iterate 2 refine W_guard_un rfl rfl ?_)
             | (refine W_guard_yes rfl ?_
                refine W_pcall hp rfl ((text_spec 120 (by decide)).eq (congrArg strV text_120)) rfl ?_
                clear hp; intro w hp
                refine W_guard_yes rfl ?_
                first
                  | (refine W_seql_t rfl rfl ?_ rfl ?_; (focus (first | rfl | assumption)))
                  | (refine W_seql_f rfl rfl ?_ rfl ?_; (focus (first | assumption | decide | exact List.cons_ne_nil _ _)))
                  | (refine W_seql rfl rfl rfl ?_))
           first
             | (refine W_pick_t rfl rfl rfl ?_)
             | (refine W_pick_f rfl rfl rfl ?_)
             | (refine W_pick_b rfl rfl rfl rfl ?_)
           refine W_assign rfl rfl ?_
           refine W_nil ?_
           refine N_then_k ?_
           refine K_ret ?_
           refine N_done1 (.inr rfl) rfl rfl ?_
           exact ⟨_, rfl, rfl, hp.nil⟩)))))))))

theorem DecimalReads_walk (w0 : World) (hg : ErrT w0) (s : List UInt8) (most : Int) : PureAt Tryd.prog 3 [.string ⟨s.toArray⟩, .int .i64 most] (.bool true) w0 := by
  refine PureAt.intro go3 Tryd.func3 rfl rfl fun hp => ?_
  refine (fun (hk : ∀ w, Hp w0 [] [] w → K _ _ _ _ _ w) => hk w0 hp) fun w hp => ?_
  refine K_seq ?_
  refine K_region ?_
  refine W_assign rfl rfl ?_
  refine W_nil ?_
  refine N_then_k ?_
  refine K_seq ?_
  refine K_seq ?_
  refine K_region ?_
  refine W_acall hp rfl ((awake_spec w (hg.keep hp))) rfl ?_
  clear hp; intro w hp
  first
    | (refine W_not_t rfl rfl ?_)
    | (refine W_not_f rfl rfl ?_)
    | (refine W_not rfl rfl ?_)
  refine W_move rfl rfl ?_
  first
    | refine W_guard_lit_t rfl ?_
    | refine W_guard_lit_f rfl ?_
    | refine W_guard_lit_u rfl ?_
    | refine W_guard_split_d rfl rfl rfl (fun hg1 => ?_) (fun hg1 => ?_)
    | refine W_guard_split_n rfl rfl rfl (fun hg1 => ?_) (fun hg1 => ?_)
    | refine W_guard_split_nb rfl rfl rfl (fun hg1 => ?_) (fun hg1 => ?_)
    | refine W_guard_split rfl rfl rfl (fun hg1 => ?_) (fun hg1 => ?_)
  all_goals try (exfalso; first | omega | (simp only [Bool.false_eq_true, reduceCtorEq] at hg1; done) | (refine absurd hg1 ?_; with_reducible assumption) | (refine absurd ?_ hg1; with_reducible assumption))
  all_goals (
   first
     | (iterate 3 refine W_guard_no rfl rfl rfl ?_)
     | (iterate 3 refine W_guard_un rfl rfl ?_)
     | (refine W_guard_yes rfl ?_
        refine W_move rfl rfl ?_
        refine W_guard_yes rfl ?_
        refine W_len_s Tryd.underlying9 rfl rfl ?_
        refine W_guard_yes rfl ?_
        first
          | (refine W_gtr_t rfl rfl ?_ rfl ?_; (focus (omega)))
          | (refine W_gtr_f rfl rfl ?_ rfl ?_; (focus (omega)))
          | (refine W_gtr rfl rfl rfl ?_))
   first
     | (refine W_pick_t rfl rfl rfl ?_)
     | (refine W_pick_f rfl rfl rfl ?_)
     | (refine W_pick_b rfl rfl rfl rfl ?_)
   refine W_move rfl rfl ?_
   first
     | refine W_guard_lit_t rfl ?_
     | refine W_guard_lit_f rfl ?_
     | refine W_guard_lit_u rfl ?_
     | refine W_guard_split_d rfl rfl rfl (fun hg2 => ?_) (fun hg2 => ?_)
     | refine W_guard_split_n rfl rfl rfl (fun hg2 => ?_) (fun hg2 => ?_)
     | refine W_guard_split_nb rfl rfl rfl (fun hg2 => ?_) (fun hg2 => ?_)
     | refine W_guard_split rfl rfl rfl (fun hg2 => ?_) (fun hg2 => ?_)
   all_goals try (exfalso; first | omega | (simp only [Bool.false_eq_true, reduceCtorEq] at hg2; done) | (refine absurd hg2 ?_; with_reducible assumption) | (refine absurd ?_ hg2; with_reducible assumption))
   all_goals (
    first
      | (iterate 2 refine W_guard_no rfl rfl rfl ?_)
      | (iterate 2 refine W_guard_un rfl rfl ?_)
      | (refine W_guard_yes rfl ?_
         refine W_move rfl rfl ?_
         refine W_guard_yes rfl ?_
         first
           | (refine W_lss_t rfl rfl ?_ rfl ?_; (focus (omega)))
           | (refine W_lss_f rfl rfl ?_ rfl ?_; (focus (omega)))
           | (refine W_lss rfl rfl rfl ?_))
    first
      | (refine W_pick_t rfl rfl rfl ?_)
      | (refine W_pick_f rfl rfl rfl ?_)
      | (refine W_pick_b rfl rfl rfl rfl ?_)
    refine W_move rfl rfl ?_
    first
      | refine W_guard_lit_t rfl ?_
      | refine W_guard_lit_f rfl ?_
      | refine W_guard_lit_u rfl ?_
      | refine W_guard_split_d rfl rfl rfl (fun hg3 => ?_) (fun hg3 => ?_)
      | refine W_guard_split_n rfl rfl rfl (fun hg3 => ?_) (fun hg3 => ?_)
      | refine W_guard_split_nb rfl rfl rfl (fun hg3 => ?_) (fun hg3 => ?_)
      | refine W_guard_split rfl rfl rfl (fun hg3 => ?_) (fun hg3 => ?_)
    all_goals try (exfalso; first | omega | (simp only [Bool.false_eq_true, reduceCtorEq] at hg3; done) | (refine absurd hg3 ?_; with_reducible assumption) | (refine absurd ?_ hg3; with_reducible assumption))
    all_goals (
     first
       | (iterate 2 refine W_guard_no rfl rfl rfl ?_)
       | (iterate 2 refine W_guard_un rfl rfl ?_)
       | (refine W_guard_yes rfl ?_
          refine W_move rfl rfl ?_
          refine W_guard_yes rfl ?_
          first
            | (refine W_gtr_t rfl rfl ?_ rfl ?_; (focus (omega)))
            | (refine W_gtr_f rfl rfl ?_ rfl ?_; (focus (omega)))
            | (refine W_gtr rfl rfl rfl ?_))
     first
       | (refine W_pick_t rfl rfl rfl ?_)
       | (refine W_pick_f rfl rfl rfl ?_)
       | (refine W_pick_b rfl rfl rfl rfl ?_)
     refine W_nil ?_
     refine N_then_k ?_
     first
       | refine K_cond_d rfl (fun hc4 => ?_) (fun hc4 => ?_)
       | refine K_cond_n rfl (fun hc4 => ?_) (fun hc4 => ?_)
       | refine K_cond_nb rfl (fun hc4 => ?_) (fun hc4 => ?_)
       | refine K_cond_t rfl (fun hc4 => ?_) (fun hc4 => ?_)
     · try (exfalso; first | omega | (simp only [Bool.false_eq_true, reduceCtorEq] at hc4; done) | (refine absurd hc4 ?_; with_reducible assumption) | (refine absurd ?_ hc4; with_reducible assumption))
       all_goals (
        refine K_seq ?_
        refine K_region ?_
        refine W_acall hp rfl ((awake_spec w (hg.keep hp))) rfl ?_
        clear hp; intro w hp
        refine W_assign rfl rfl ?_
        refine W_nil ?_
        refine N_then_k ?_
        refine K_ret ?_
        refine N_then_ret ?_
        refine N_done1 (.inr rfl) rfl rfl ?_
        exact ⟨_, rfl, rfl, hp.nil⟩)
     · try (exfalso; first | omega | (simp only [Bool.false_eq_true, reduceCtorEq] at hc4; done) | (refine absurd hc4 ?_; with_reducible assumption) | (refine absurd ?_ hc4; with_reducible assumption))
       all_goals (
        refine K_skip ?_
        refine N_then_k ?_
        refine K_seq ?_
        refine K_region ?_
        rcases readR_cases 10 most s with ⟨n, hR⟩ | ⟨a, hR⟩ | hR
        all_goals (
         refine W_move rfl rfl ?_
         refine W_move rfl rfl ?_
         first
           | (refine W_pcall hp rfl ((parse_spec s most (by omega) (by omega) (by omega)).eq (rV_ok hR)) rfl ?_)
           | (refine W_pcall hp rfl ((parse_spec s most (by omega) (by omega) (by omega)).eq (rV_bad hR)) rfl ?_)
           | (refine W_pcall hp rfl ((parse_spec s most (by omega) (by omega) (by omega)).eq (rV_over hR)) rfl ?_)
         clear hp; intro w hp
         refine W_move rfl rfl ?_
         refine W_extract rfl rfl rfl ?_
         refine W_extract rfl rfl rfl ?_
         refine W_assign rfl rfl ?_
         refine W_assign rfl rfl ?_
         refine W_nil ?_
         refine N_then_k ?_
         refine K_seq ?_
         refine K_region ?_
         refine W_move rfl rfl ?_
         refine W_move rfl rfl ?_
         refine W_pcall hp rfl ((rparse10 s most (by omega) (by omega) (by omega)).eq (rT_of hR)) rfl ?_
         clear hp; intro w hp
         refine W_move rfl rfl ?_
         refine W_extract rfl rfl rfl ?_
         refine W_extract rfl rfl rfl ?_
         refine W_extract rfl rfl rfl ?_
         refine W_assign rfl rfl ?_
         refine W_assign rfl rfl ?_
         refine W_assign rfl rfl ?_
         refine W_nil ?_
         refine N_then_k ?_
         refine K_seq ?_
         refine K_region ?_
         refine W_move rfl rfl ?_
         refine W_move rfl rfl ?_
         first
           | (refine W_eql_t rfl rfl ?_ rfl ?_; (focus (omega)))
           | (refine W_eql_f rfl rfl ?_ rfl ?_; (focus (omega)))
           | (refine W_eql rfl rfl rfl ?_)
         refine W_move rfl rfl ?_
         first
           | refine W_guard_lit_t rfl ?_
           | refine W_guard_lit_f rfl ?_
           | refine W_guard_lit_u rfl ?_
           | refine W_guard_split_d rfl rfl rfl (fun hg5 => ?_) (fun hg5 => ?_)
           | refine W_guard_split_n rfl rfl rfl (fun hg5 => ?_) (fun hg5 => ?_)
           | refine W_guard_split_nb rfl rfl rfl (fun hg5 => ?_) (fun hg5 => ?_)
           | refine W_guard_split rfl rfl rfl (fun hg5 => ?_) (fun hg5 => ?_)
         all_goals try (exfalso; first | omega | (simp only [Bool.false_eq_true, reduceCtorEq] at hg5; done) | (refine absurd hg5 ?_; with_reducible assumption) | (refine absurd ?_ hg5; with_reducible assumption))
         all_goals (
          first
            | (iterate 3 refine W_guard_no rfl rfl rfl ?_)
            | (iterate 3 refine W_guard_un rfl rfl ?_)
            | (refine W_guard_yes rfl ?_
               refine W_move rfl rfl ?_
               refine W_guard_yes rfl ?_
               first
                 | (refine W_eql_t rfl rfl ?_ rfl ?_; (focus (omega)))
                 | (refine W_eql_f rfl rfl ?_ rfl ?_; (focus (omega)))
                 | (refine W_eql rfl rfl rfl ?_)
               refine W_guard_yes rfl ?_
               refine W_move rfl rfl ?_)
          first
            | refine W_guard_lit_t rfl ?_
            | refine W_guard_lit_f rfl ?_
            | refine W_guard_lit_u rfl ?_
            | refine W_guard_split_d rfl rfl rfl (fun hg6 => ?_) (fun hg6 => ?_)
            | refine W_guard_split_n rfl rfl rfl (fun hg6 => ?_) (fun hg6 => ?_)
            | refine W_guard_split_nb rfl rfl rfl (fun hg6 => ?_) (fun hg6 => ?_)
            | refine W_guard_split rfl rfl rfl (fun hg6 => ?_) (fun hg6 => ?_)
          all_goals try (exfalso; first | omega | (simp only [Bool.false_eq_true, reduceCtorEq] at hg6; done) | (refine absurd hg6 ?_; with_reducible assumption) | (refine absurd ?_ hg6; with_reducible assumption))
          all_goals (
           first
             | (iterate 2 refine W_guard_no rfl rfl rfl ?_)
             | (iterate 2 refine W_guard_un rfl rfl ?_)
             | (refine W_guard_yes rfl ?_
                refine W_move rfl rfl ?_
                refine W_guard_yes rfl ?_
                refine W_val rfl (inb_of rfl) (R_bin (a := .nilIface) (v := .bool true) rfl rfl ?_) ?_
                · kernel_rfl)
           first
             | (iterate 2 refine W_guard_no rfl rfl rfl ?_)
             | (iterate 2 refine W_guard_un rfl rfl ?_)
             | (refine W_guard_yes rfl ?_
                first
                  | (refine W_pick_t rfl rfl rfl ?_)
                  | (refine W_pick_f rfl rfl rfl ?_)
                  | (refine W_pick_b rfl rfl rfl rfl ?_)
                refine W_guard_yes rfl ?_
                refine W_move rfl rfl ?_)
           first
             | refine W_guard_lit_t rfl ?_
             | refine W_guard_lit_f rfl ?_
             | refine W_guard_lit_u rfl ?_
             | refine W_guard_split_d rfl rfl rfl (fun hg7 => ?_) (fun hg7 => ?_)
             | refine W_guard_split_n rfl rfl rfl (fun hg7 => ?_) (fun hg7 => ?_)
             | refine W_guard_split_nb rfl rfl rfl (fun hg7 => ?_) (fun hg7 => ?_)
             | refine W_guard_split rfl rfl rfl (fun hg7 => ?_) (fun hg7 => ?_)
           all_goals try (exfalso; first | omega | (simp only [Bool.false_eq_true, reduceCtorEq] at hg7; done) | (refine absurd hg7 ?_; with_reducible assumption) | (refine absurd ?_ hg7; with_reducible assumption))
           all_goals (
            first
              | (iterate 3 refine W_guard_no rfl rfl rfl ?_)
              | (iterate 3 refine W_guard_un rfl rfl ?_)
              | (refine W_guard_yes rfl ?_
                 refine W_move rfl rfl ?_
                 refine W_guard_yes rfl ?_
                 first
                   | (refine W_neq_t rfl rfl ?_ rfl ?_; (focus (omega)))
                   | (refine W_neq_f rfl rfl ?_ rfl ?_; (focus (omega)))
                   | (refine W_neq rfl rfl rfl ?_)
                 refine W_guard_yes rfl ?_
                 refine W_move rfl rfl ?_)
            first
              | refine W_guard_lit_t rfl ?_
              | refine W_guard_lit_f rfl ?_
              | refine W_guard_lit_u rfl ?_
              | refine W_guard_split_d rfl rfl rfl (fun hg8 => ?_) (fun hg8 => ?_)
              | refine W_guard_split_n rfl rfl rfl (fun hg8 => ?_) (fun hg8 => ?_)
              | refine W_guard_split_nb rfl rfl rfl (fun hg8 => ?_) (fun hg8 => ?_)
              | refine W_guard_split rfl rfl rfl (fun hg8 => ?_) (fun hg8 => ?_)
            all_goals try (exfalso; first | omega | (simp only [Bool.false_eq_true, reduceCtorEq] at hg8; done) | (refine absurd hg8 ?_; with_reducible assumption) | (refine absurd ?_ hg8; with_reducible assumption))
            all_goals (
             first
               | (iterate 4 refine W_guard_no rfl rfl rfl ?_)
               | (iterate 4 refine W_guard_un rfl rfl ?_)
               | (refine W_guard_yes rfl ?_
                  refine W_move rfl rfl ?_
                  refine W_guard_yes rfl ?_
                  refine W_move rfl rfl ?_
                  refine W_guard_yes rfl ?_
                  refine W_move rfl rfl ?_
                  refine W_guard_yes rfl ?_
                  first
                    | (refine W_acall hp rfl (wrong_spec w (hg.keep hp) 400 a) rfl ?_)
                    | (refine W_acall hp rfl (wrong_spec w (hg.keep hp) 413 0) rfl ?_)
                  clear hp; intro w hp)
             first
               | (refine W_guard_no rfl rfl rfl ?_)
               | (refine W_guard_un rfl rfl ?_)
               | (refine W_guard_yes rfl ?_
                  first
                    | (refine W_pick_t rfl rfl rfl ?_)
                    | (refine W_pick_f rfl rfl rfl ?_)
                    | (refine W_pick_b rfl rfl rfl rfl ?_))
             first
               | (refine W_guard_no rfl rfl rfl ?_)
               | (refine W_guard_un rfl rfl ?_)
               | (refine W_guard_yes rfl ?_
                  first
                    | (refine W_pick_t rfl rfl rfl ?_)
                    | (refine W_pick_f rfl rfl rfl ?_)
                    | (refine W_pick_b rfl rfl rfl rfl ?_))
             first
               | (refine W_pick_t rfl rfl rfl ?_)
               | (refine W_pick_f rfl rfl rfl ?_)
               | (refine W_pick_b rfl rfl rfl rfl ?_)
             refine W_assign rfl rfl ?_
             refine W_nil ?_
             refine N_then_k ?_
             refine K_ret ?_
             refine N_done1 (.inr rfl) rfl rfl ?_
             exact ⟨_, rfl, rfl, hp.nil⟩)))))))))

theorem DecimalHex_walk (w0 : World) (hg : ErrT w0) (s : List UInt8) (most : Int) : PureAt Tryd.prog 4 [.string ⟨s.toArray⟩, .int .i64 most] (.bool true) w0 := by
  refine PureAt.intro go4 Tryd.func4 rfl rfl fun hp => ?_
  refine (fun (hk : ∀ w, Hp w0 [] [] w → K _ _ _ _ _ w) => hk w0 hp) fun w hp => ?_
  refine K_seq ?_
  refine K_region ?_
  refine W_assign rfl rfl ?_
  refine W_nil ?_
  refine N_then_k ?_
  refine K_seq ?_
  refine K_seq ?_
  refine K_region ?_
  refine W_acall hp rfl ((awake_spec w (hg.keep hp))) rfl ?_
  clear hp; intro w hp
  first
    | (refine W_not_t rfl rfl ?_)
    | (refine W_not_f rfl rfl ?_)
    | (refine W_not rfl rfl ?_)
  refine W_move rfl rfl ?_
  first
    | refine W_guard_lit_t rfl ?_
    | refine W_guard_lit_f rfl ?_
    | refine W_guard_lit_u rfl ?_
    | refine W_guard_split_d rfl rfl rfl (fun hg1 => ?_) (fun hg1 => ?_)
    | refine W_guard_split_n rfl rfl rfl (fun hg1 => ?_) (fun hg1 => ?_)
    | refine W_guard_split_nb rfl rfl rfl (fun hg1 => ?_) (fun hg1 => ?_)
    | refine W_guard_split rfl rfl rfl (fun hg1 => ?_) (fun hg1 => ?_)
  all_goals try (exfalso; first | omega | (simp only [Bool.false_eq_true, reduceCtorEq] at hg1; done) | (refine absurd hg1 ?_; with_reducible assumption) | (refine absurd ?_ hg1; with_reducible assumption))
  all_goals (
   first
     | (iterate 3 refine W_guard_no rfl rfl rfl ?_)
     | (iterate 3 refine W_guard_un rfl rfl ?_)
     | (refine W_guard_yes rfl ?_
        refine W_move rfl rfl ?_
        refine W_guard_yes rfl ?_
        refine W_len_s Tryd.underlying9 rfl rfl ?_
        refine W_guard_yes rfl ?_
        first
          | (refine W_gtr_t rfl rfl ?_ rfl ?_; (focus (omega)))
          | (refine W_gtr_f rfl rfl ?_ rfl ?_; (focus (omega)))
          | (refine W_gtr rfl rfl rfl ?_))
   first
     | (refine W_pick_t rfl rfl rfl ?_)
     | (refine W_pick_f rfl rfl rfl ?_)
     | (refine W_pick_b rfl rfl rfl rfl ?_)
   refine W_move rfl rfl ?_
   first
     | refine W_guard_lit_t rfl ?_
     | refine W_guard_lit_f rfl ?_
     | refine W_guard_lit_u rfl ?_
     | refine W_guard_split_d rfl rfl rfl (fun hg2 => ?_) (fun hg2 => ?_)
     | refine W_guard_split_n rfl rfl rfl (fun hg2 => ?_) (fun hg2 => ?_)
     | refine W_guard_split_nb rfl rfl rfl (fun hg2 => ?_) (fun hg2 => ?_)
     | refine W_guard_split rfl rfl rfl (fun hg2 => ?_) (fun hg2 => ?_)
   all_goals try (exfalso; first | omega | (simp only [Bool.false_eq_true, reduceCtorEq] at hg2; done) | (refine absurd hg2 ?_; with_reducible assumption) | (refine absurd ?_ hg2; with_reducible assumption))
   all_goals (
    first
      | (iterate 2 refine W_guard_no rfl rfl rfl ?_)
      | (iterate 2 refine W_guard_un rfl rfl ?_)
      | (refine W_guard_yes rfl ?_
         refine W_move rfl rfl ?_
         refine W_guard_yes rfl ?_
         first
           | (refine W_lss_t rfl rfl ?_ rfl ?_; (focus (omega)))
           | (refine W_lss_f rfl rfl ?_ rfl ?_; (focus (omega)))
           | (refine W_lss rfl rfl rfl ?_))
    first
      | (refine W_pick_t rfl rfl rfl ?_)
      | (refine W_pick_f rfl rfl rfl ?_)
      | (refine W_pick_b rfl rfl rfl rfl ?_)
    refine W_move rfl rfl ?_
    first
      | refine W_guard_lit_t rfl ?_
      | refine W_guard_lit_f rfl ?_
      | refine W_guard_lit_u rfl ?_
      | refine W_guard_split_d rfl rfl rfl (fun hg3 => ?_) (fun hg3 => ?_)
      | refine W_guard_split_n rfl rfl rfl (fun hg3 => ?_) (fun hg3 => ?_)
      | refine W_guard_split_nb rfl rfl rfl (fun hg3 => ?_) (fun hg3 => ?_)
      | refine W_guard_split rfl rfl rfl (fun hg3 => ?_) (fun hg3 => ?_)
    all_goals try (exfalso; first | omega | (simp only [Bool.false_eq_true, reduceCtorEq] at hg3; done) | (refine absurd hg3 ?_; with_reducible assumption) | (refine absurd ?_ hg3; with_reducible assumption))
    all_goals (
     first
       | (iterate 2 refine W_guard_no rfl rfl rfl ?_)
       | (iterate 2 refine W_guard_un rfl rfl ?_)
       | (refine W_guard_yes rfl ?_
          refine W_move rfl rfl ?_
          refine W_guard_yes rfl ?_
          first
            | (refine W_gtr_t rfl rfl ?_ rfl ?_; (focus (omega)))
            | (refine W_gtr_f rfl rfl ?_ rfl ?_; (focus (omega)))
            | (refine W_gtr rfl rfl rfl ?_))
     first
       | (refine W_pick_t rfl rfl rfl ?_)
       | (refine W_pick_f rfl rfl rfl ?_)
       | (refine W_pick_b rfl rfl rfl rfl ?_)
     refine W_nil ?_
     refine N_then_k ?_
     first
       | refine K_cond_d rfl (fun hc4 => ?_) (fun hc4 => ?_)
       | refine K_cond_n rfl (fun hc4 => ?_) (fun hc4 => ?_)
       | refine K_cond_nb rfl (fun hc4 => ?_) (fun hc4 => ?_)
       | refine K_cond_t rfl (fun hc4 => ?_) (fun hc4 => ?_)
     · try (exfalso; first | omega | (simp only [Bool.false_eq_true, reduceCtorEq] at hc4; done) | (refine absurd hc4 ?_; with_reducible assumption) | (refine absurd ?_ hc4; with_reducible assumption))
       all_goals (
        refine K_seq ?_
        refine K_region ?_
        refine W_acall hp rfl ((awake_spec w (hg.keep hp))) rfl ?_
        clear hp; intro w hp
        refine W_assign rfl rfl ?_
        refine W_nil ?_
        refine N_then_k ?_
        refine K_ret ?_
        refine N_then_ret ?_
        refine N_done1 (.inr rfl) rfl rfl ?_
        exact ⟨_, rfl, rfl, hp.nil⟩)
     · try (exfalso; first | omega | (simp only [Bool.false_eq_true, reduceCtorEq] at hc4; done) | (refine absurd hc4 ?_; with_reducible assumption) | (refine absurd ?_ hc4; with_reducible assumption))
       all_goals (
        refine K_skip ?_
        refine N_then_k ?_
        refine K_seq ?_
        refine K_region ?_
        rcases readR_cases 16 most s with ⟨n, hR⟩ | ⟨a, hR⟩ | hR
        all_goals (
         refine W_move rfl rfl ?_
         refine W_move rfl rfl ?_
         first
           | (refine W_pcall hp rfl ((parseHex_spec s most (by omega) (by omega) (by omega)).eq (rV_ok hR)) rfl ?_)
           | (refine W_pcall hp rfl ((parseHex_spec s most (by omega) (by omega) (by omega)).eq (rV_bad hR)) rfl ?_)
           | (refine W_pcall hp rfl ((parseHex_spec s most (by omega) (by omega) (by omega)).eq (rV_over hR)) rfl ?_)
         clear hp; intro w hp
         refine W_move rfl rfl ?_
         refine W_extract rfl rfl rfl ?_
         refine W_extract rfl rfl rfl ?_
         refine W_assign rfl rfl ?_
         refine W_assign rfl rfl ?_
         refine W_nil ?_
         refine N_then_k ?_
         refine K_seq ?_
         refine K_region ?_
         refine W_move rfl rfl ?_
         refine W_move rfl rfl ?_
         refine W_pcall hp rfl ((rparse16 s most (by omega) (by omega) (by omega)).eq (rT_of hR)) rfl ?_
         clear hp; intro w hp
         refine W_move rfl rfl ?_
         refine W_extract rfl rfl rfl ?_
         refine W_extract rfl rfl rfl ?_
         refine W_extract rfl rfl rfl ?_
         refine W_assign rfl rfl ?_
         refine W_assign rfl rfl ?_
         refine W_assign rfl rfl ?_
         refine W_nil ?_
         refine N_then_k ?_
         refine K_seq ?_
         refine K_region ?_
         refine W_move rfl rfl ?_
         refine W_move rfl rfl ?_
         first
           | (refine W_eql_t rfl rfl ?_ rfl ?_; (focus (omega)))
           | (refine W_eql_f rfl rfl ?_ rfl ?_; (focus (omega)))
           | (refine W_eql rfl rfl rfl ?_)
         refine W_move rfl rfl ?_
         first
           | refine W_guard_lit_t rfl ?_
           | refine W_guard_lit_f rfl ?_
           | refine W_guard_lit_u rfl ?_
           | refine W_guard_split_d rfl rfl rfl (fun hg5 => ?_) (fun hg5 => ?_)
           | refine W_guard_split_n rfl rfl rfl (fun hg5 => ?_) (fun hg5 => ?_)
           | refine W_guard_split_nb rfl rfl rfl (fun hg5 => ?_) (fun hg5 => ?_)
           | refine W_guard_split rfl rfl rfl (fun hg5 => ?_) (fun hg5 => ?_)
         all_goals try (exfalso; first | omega | (simp only [Bool.false_eq_true, reduceCtorEq] at hg5; done) | (refine absurd hg5 ?_; with_reducible assumption) | (refine absurd ?_ hg5; with_reducible assumption))
         all_goals (
          first
            | (iterate 3 refine W_guard_no rfl rfl rfl ?_)
            | (iterate 3 refine W_guard_un rfl rfl ?_)
            | (refine W_guard_yes rfl ?_
               refine W_move rfl rfl ?_
               refine W_guard_yes rfl ?_
               first
                 | (refine W_eql_t rfl rfl ?_ rfl ?_; (focus (omega)))
                 | (refine W_eql_f rfl rfl ?_ rfl ?_; (focus (omega)))
                 | (refine W_eql rfl rfl rfl ?_)
               refine W_guard_yes rfl ?_
               refine W_move rfl rfl ?_)
          first
            | refine W_guard_lit_t rfl ?_
            | refine W_guard_lit_f rfl ?_
            | refine W_guard_lit_u rfl ?_
            | refine W_guard_split_d rfl rfl rfl (fun hg6 => ?_) (fun hg6 => ?_)
            | refine W_guard_split_n rfl rfl rfl (fun hg6 => ?_) (fun hg6 => ?_)
            | refine W_guard_split_nb rfl rfl rfl (fun hg6 => ?_) (fun hg6 => ?_)
            | refine W_guard_split rfl rfl rfl (fun hg6 => ?_) (fun hg6 => ?_)
          all_goals try (exfalso; first | omega | (simp only [Bool.false_eq_true, reduceCtorEq] at hg6; done) | (refine absurd hg6 ?_; with_reducible assumption) | (refine absurd ?_ hg6; with_reducible assumption))
          all_goals (
           first
             | (iterate 2 refine W_guard_no rfl rfl rfl ?_)
             | (iterate 2 refine W_guard_un rfl rfl ?_)
             | (refine W_guard_yes rfl ?_
                refine W_move rfl rfl ?_
                refine W_guard_yes rfl ?_
                refine W_val rfl (inb_of rfl) (R_bin (a := .nilIface) (v := .bool true) rfl rfl ?_) ?_
                · kernel_rfl)
           first
             | (iterate 2 refine W_guard_no rfl rfl rfl ?_)
             | (iterate 2 refine W_guard_un rfl rfl ?_)
             | (refine W_guard_yes rfl ?_
                first
                  | (refine W_pick_t rfl rfl rfl ?_)
                  | (refine W_pick_f rfl rfl rfl ?_)
                  | (refine W_pick_b rfl rfl rfl rfl ?_)
                refine W_guard_yes rfl ?_
                refine W_move rfl rfl ?_)
           first
             | refine W_guard_lit_t rfl ?_
             | refine W_guard_lit_f rfl ?_
             | refine W_guard_lit_u rfl ?_
             | refine W_guard_split_d rfl rfl rfl (fun hg7 => ?_) (fun hg7 => ?_)
             | refine W_guard_split_n rfl rfl rfl (fun hg7 => ?_) (fun hg7 => ?_)
             | refine W_guard_split_nb rfl rfl rfl (fun hg7 => ?_) (fun hg7 => ?_)
             | refine W_guard_split rfl rfl rfl (fun hg7 => ?_) (fun hg7 => ?_)
           all_goals try (exfalso; first | omega | (simp only [Bool.false_eq_true, reduceCtorEq] at hg7; done) | (refine absurd hg7 ?_; with_reducible assumption) | (refine absurd ?_ hg7; with_reducible assumption))
           all_goals (
            first
              | (iterate 3 refine W_guard_no rfl rfl rfl ?_)
              | (iterate 3 refine W_guard_un rfl rfl ?_)
              | (refine W_guard_yes rfl ?_
                 refine W_move rfl rfl ?_
                 refine W_guard_yes rfl ?_
                 first
                   | (refine W_neq_t rfl rfl ?_ rfl ?_; (focus (omega)))
                   | (refine W_neq_f rfl rfl ?_ rfl ?_; (focus (omega)))
                   | (refine W_neq rfl rfl rfl ?_)
                 refine W_guard_yes rfl ?_
                 refine W_move rfl rfl ?_)
            first
              | refine W_guard_lit_t rfl ?_
              | refine W_guard_lit_f rfl ?_
              | refine W_guard_lit_u rfl ?_
              | refine W_guard_split_d rfl rfl rfl (fun hg8 => ?_) (fun hg8 => ?_)
              | refine W_guard_split_n rfl rfl rfl (fun hg8 => ?_) (fun hg8 => ?_)
              | refine W_guard_split_nb rfl rfl rfl (fun hg8 => ?_) (fun hg8 => ?_)
              | refine W_guard_split rfl rfl rfl (fun hg8 => ?_) (fun hg8 => ?_)
            all_goals try (exfalso; first | omega | (simp only [Bool.false_eq_true, reduceCtorEq] at hg8; done) | (refine absurd hg8 ?_; with_reducible assumption) | (refine absurd ?_ hg8; with_reducible assumption))
            all_goals (
             first
               | (iterate 4 refine W_guard_no rfl rfl rfl ?_)
               | (iterate 4 refine W_guard_un rfl rfl ?_)
               | (refine W_guard_yes rfl ?_
                  refine W_move rfl rfl ?_
                  refine W_guard_yes rfl ?_
                  refine W_move rfl rfl ?_
                  refine W_guard_yes rfl ?_
                  refine W_move rfl rfl ?_
                  refine W_guard_yes rfl ?_
                  first
                    | (refine W_acall hp rfl (wrong_spec w (hg.keep hp) 400 a) rfl ?_)
                    | (refine W_acall hp rfl (wrong_spec w (hg.keep hp) 413 0) rfl ?_)
                  clear hp; intro w hp)
             first
               | (refine W_guard_no rfl rfl rfl ?_)
               | (refine W_guard_un rfl rfl ?_)
               | (refine W_guard_yes rfl ?_
                  first
                    | (refine W_pick_t rfl rfl rfl ?_)
                    | (refine W_pick_f rfl rfl rfl ?_)
                    | (refine W_pick_b rfl rfl rfl rfl ?_))
             first
               | (refine W_guard_no rfl rfl rfl ?_)
               | (refine W_guard_un rfl rfl ?_)
               | (refine W_guard_yes rfl ?_
                  first
                    | (refine W_pick_t rfl rfl rfl ?_)
                    | (refine W_pick_f rfl rfl rfl ?_)
                    | (refine W_pick_b rfl rfl rfl rfl ?_))
             first
               | (refine W_pick_t rfl rfl rfl ?_)
               | (refine W_pick_f rfl rfl rfl ?_)
               | (refine W_pick_b rfl rfl rfl rfl ?_)
             refine W_assign rfl rfl ?_
             refine W_nil ?_
             refine N_then_k ?_
             refine K_ret ?_
             refine N_done1 (.inr rfl) rfl rfl ?_
             exact ⟨_, rfl, rfl, hp.nil⟩)))))))))

end Go.Proofs.YthkdgfflgamegaaDoor
