/-
  Law EqualWalks, walked: whatever the texts, the law returns true and turns nothing that was there.
-/
import Derived.Test.YtpeefiakmidkcaaEqLaws
namespace Go.Proofs.Ytpeefiakmidkcaa
open Go.Sx Go.RowKit
set_option linter.unusedVariables false
set_option linter.unusedSimpArgs false
set_option maxRecDepth 100000

theorem take2 {α : Type} {L : List α} {k : Nat} {x y : α} (h1 : L[k]? = some x) (h2 : L[k + 1]? = some y) : (L.drop k).take 2 = [x, y] := by
  apply List.ext_getElem?
  intro i
  match i with
  | 0 => simpa using h1
  | 1 => simpa using h2
  | i + 2 => simp; omega
theorem EqualWalks_walk (a b : List UInt8) (w : World) : PureAt Try.prog 3 [.string ⟨a.toArray⟩, .string ⟨b.toArray⟩] (.bool true) w := by
  refine PureF.at (PureF.intro go3 Try.func3 rfl rfl fun w0 hp => ?_) w
  refine K_seq ?_
  refine K_region ?_
  refine W_assign rfl rfl ?_
  refine W_nil ?_
  refine N_then_k ?_
  refine K_seq ?_
  refine K_seq ?_
  refine K_region ?_
  refine W_pcall hp rfl (awake_spec) rfl ?_
  clear hp; intro w hp
  first
    | (refine W_not_t rfl rfl ?_)
    | (refine W_not_f rfl rfl ?_)
    | (refine W_not rfl rfl ?_)
  refine W_move rfl rfl ?_
  first
    | refine W_guard_lit_t rfl ?_
    | refine W_guard_lit_f rfl ?_
    | refine W_guard_split rfl rfl rfl (fun hg1 => ?_) (fun hg1 => ?_)
  all_goals (
    try simp only [decide_eq_true_eq, decide_eq_false_iff_not, Bool.not_eq_true', Bool.not_eq_false', Bool.and_eq_true, Bool.or_eq_true, Bool.and_eq_false_iff, Bool.or_eq_false_iff, Bool.false_eq_true, Bool.true_eq_false, reduceCtorEq] at hg1
    try (exfalso; first | contradiction | omega))
  all_goals (
    first
      | (refine W_guard_yes rfl ?_
         refine W_move rfl rfl ?_)
      | (refine W_guard_no rfl rfl rfl ?_)
    first
      | (refine W_guard_yes rfl ?_
         refine W_len_s Try.underlying9 rfl rfl ?_)
      | (refine W_guard_no rfl rfl rfl ?_)
    first
      | (refine W_guard_yes rfl ?_
         first
           | (refine W_gtr_t rfl rfl ?_ rfl ?_; (focus (omega)))
           | (refine W_gtr_f rfl rfl ?_ rfl ?_; (focus (omega)))
           | (refine W_gtr rfl rfl rfl ?_))
      | (refine W_guard_no rfl rfl rfl ?_)
    first
      | (refine W_pick_t rfl rfl rfl ?_)
      | (refine W_pick_f rfl rfl rfl ?_)
      | (refine W_pick_b rfl rfl rfl rfl ?_)
    refine W_move rfl rfl ?_
    first
      | refine W_guard_lit_t rfl ?_
      | refine W_guard_lit_f rfl ?_
      | refine W_guard_split rfl rfl rfl (fun hg2 => ?_) (fun hg2 => ?_)
    all_goals (
      try simp only [decide_eq_true_eq, decide_eq_false_iff_not, Bool.not_eq_true', Bool.not_eq_false', Bool.and_eq_true, Bool.or_eq_true, Bool.and_eq_false_iff, Bool.or_eq_false_iff, Bool.false_eq_true, Bool.true_eq_false, reduceCtorEq] at hg2
      try (exfalso; first | contradiction | omega))
    all_goals (
      first
        | (refine W_guard_yes rfl ?_
           refine W_move rfl rfl ?_)
        | (refine W_guard_no rfl rfl rfl ?_)
      first
        | (refine W_guard_yes rfl ?_
           refine W_len_s Try.underlying9 rfl rfl ?_)
        | (refine W_guard_no rfl rfl rfl ?_)
      first
        | (refine W_guard_yes rfl ?_
           first
             | (refine W_gtr_t rfl rfl ?_ rfl ?_; (focus (omega)))
             | (refine W_gtr_f rfl rfl ?_ rfl ?_; (focus (omega)))
             | (refine W_gtr rfl rfl rfl ?_))
        | (refine W_guard_no rfl rfl rfl ?_)
      first
        | (refine W_pick_t rfl rfl rfl ?_)
        | (refine W_pick_f rfl rfl rfl ?_)
        | (refine W_pick_b rfl rfl rfl rfl ?_)
      refine W_nil ?_
      refine N_then_k ?_
      refine K_cond rfl (fun hc3 => ?_) (fun hc3 => ?_)
      · try simp only [decide_eq_true_eq, decide_eq_false_iff_not, Bool.not_eq_true', Bool.not_eq_false', Bool.and_eq_true, Bool.or_eq_true, Bool.and_eq_false_iff, Bool.or_eq_false_iff, Bool.false_eq_true, Bool.true_eq_false, reduceCtorEq] at hc3
        try (exfalso; first | contradiction | omega)
        all_goals (
          refine K_seq ?_
          refine K_region ?_
          refine W_pcall hp rfl (awake_spec) rfl ?_
          clear hp; intro w hp
          refine W_assign rfl rfl ?_
          refine W_nil ?_
          refine N_then_k ?_
          refine K_ret ?_
          refine N_then_ret ?_
          refine N_done1 (.inr rfl) rfl rfl ?_
          exact ⟨_, rfl, rfl, hp.nil⟩)
      · try simp only [decide_eq_true_eq, decide_eq_false_iff_not, Bool.not_eq_true', Bool.not_eq_false', Bool.and_eq_true, Bool.or_eq_true, Bool.and_eq_false_iff, Bool.or_eq_false_iff, Bool.false_eq_true, Bool.true_eq_false, reduceCtorEq] at hc3
        try (exfalso; first | contradiction | omega)
        all_goals (
          refine K_skip ?_
          refine N_then_k ?_
          refine K_seq ?_
          refine K_region ?_
          refine W_alloc hp zv25 rfl rfl ?_
          clear hp; intro b5 w hp
          refine W_nil ?_
          refine N_then_k ?_
          refine K_seq ?_
          refine K_region ?_
          refine W_move rfl rfl ?_
          refine W_move rfl rfl ?_
          refine W_mkfunc_f1 rfl rfl ?_
          have hp' := hp
          refine W_call rfl rfl rfl (CallV.static go8 (walk_spec w0 a b _ rfl rfl _ (rec_step w0 a b (by omega) (by omega) b5) [(b5, _)] [] _ ⟨_, [], rfl, OS.nil⟩ (by simpa using hp) (by omega) (by omega))) (fun v w hr => ?_)
          obtain ⟨hv, F2, ⟨v2, Hs, rfl, hos⟩, hp⟩ := hr
          subst hv
          obtain ⟨A2, c2, rfl⟩ := hos.form
          simp only [List.append_nil] at hp
          clear hp'
          refine W_assign rfl rfl ?_
          refine W_nil ?_
          refine N_then_k ?_
          refine K_seq ?_
          refine K_region ?_
          refine W_move rfl rfl ?_
          refine W_move rfl rfl ?_
          refine W_rcall hp rfl rfl rfl (CallV.static go10 (pairs_spec a b (by omega) (by omega) w)) (fun v G w hos2 hp => ?_)
          obtain ⟨A3, c3, rfl⟩ := hos2.form
          refine W_assign rfl rfl ?_
          refine W_nil ?_
          refine N_then_k ?_
          refine K_seq ?_
          refine K_seq ?_
          refine K_region ?_
          have hE := equal_spec a b (by omega) (by omega)
          by_cases hab : a = b
          all_goals first | rw [decide_eq_true hab] at hE ⊢ | rw [decide_eq_false hab] at hE ⊢
          all_goals (
            refine W_move rfl rfl ?_
            refine W_move rfl rfl ?_
            refine W_move rfl rfl ?_
            first
              | (refine W_seql_t rfl rfl ?_ rfl ?_; (focus (first | rfl | assumption)))
              | (refine W_seql_f rfl rfl ?_ rfl ?_; (focus (first | assumption | decide)))
              | (refine W_seql rfl rfl rfl ?_)
            refine W_bneq Try.underlying4 rfl rfl rfl ?_
            refine W_move rfl rfl ?_
            first
              | refine W_guard_lit_t rfl ?_
              | refine W_guard_lit_f rfl ?_
              | refine W_guard_split rfl rfl rfl (fun hg4 => ?_) (fun hg4 => ?_)
            all_goals (
              try simp only [decide_eq_true_eq, decide_eq_false_iff_not, Bool.not_eq_true', Bool.not_eq_false', Bool.and_eq_true, Bool.or_eq_true, Bool.and_eq_false_iff, Bool.or_eq_false_iff, Bool.false_eq_true, Bool.true_eq_false, reduceCtorEq] at hg4
              try (exfalso; first | contradiction | omega))
            all_goals (
              first
                | (refine W_guard_yes rfl ?_
                   refine W_move rfl rfl ?_)
                | (refine W_guard_no rfl rfl rfl ?_)
              first
                | (refine W_guard_yes rfl ?_
                   refine W_move rfl rfl ?_)
                | (refine W_guard_no rfl rfl rfl ?_)
              first
                | (refine W_guard_yes rfl ?_
                   refine W_pcall hp rfl (hE) rfl ?_
                   clear hp; intro w hp)
                | (refine W_guard_no rfl rfl rfl ?_)
              first
                | (refine W_guard_yes rfl ?_
                   refine W_move rfl rfl ?_)
                | (refine W_guard_no rfl rfl rfl ?_)
              first
                | (refine W_guard_yes rfl ?_
                   refine W_move rfl rfl ?_)
                | (refine W_guard_no rfl rfl rfl ?_)
              first
                | (refine W_guard_yes rfl ?_
                   first
                     | (refine W_seql_t rfl rfl ?_ rfl ?_; (focus (first | rfl | assumption)))
                     | (refine W_seql_f rfl rfl ?_ rfl ?_; (focus (first | assumption | decide)))
                     | (refine W_seql rfl rfl rfl ?_))
                | (refine W_guard_no rfl rfl rfl ?_)
              first
                | (refine W_guard_yes rfl ?_
                   refine W_bneq Try.underlying4 rfl rfl rfl ?_)
                | (refine W_guard_no rfl rfl rfl ?_)
              first
                | (refine W_pick_t rfl rfl rfl ?_)
                | (refine W_pick_f rfl rfl rfl ?_)
                | (refine W_pick_b rfl rfl rfl rfl ?_)
              refine W_move rfl rfl ?_
              first
                | refine W_guard_lit_t rfl ?_
                | refine W_guard_lit_f rfl ?_
                | refine W_guard_split rfl rfl rfl (fun hg5 => ?_) (fun hg5 => ?_)
              all_goals (
                try simp only [decide_eq_true_eq, decide_eq_false_iff_not, Bool.not_eq_true', Bool.not_eq_false', Bool.and_eq_true, Bool.or_eq_true, Bool.and_eq_false_iff, Bool.or_eq_false_iff, Bool.false_eq_true, Bool.true_eq_false, reduceCtorEq] at hg5
                try (exfalso; first | contradiction | omega))
              all_goals (
                first
                  | (refine W_guard_yes rfl ?_
                     refine W_fieldAddr Try.underlying25 rfl sz23 rfl rfl ?_)
                  | (refine W_guard_no rfl rfl rfl ?_)
                first
                  | (refine W_guard_yes rfl ?_
                     refine W_load_s Try.underlying23 rfl rfl (by exact hp.cellF (List.mem_append_right _ List.mem_cons_self) rfl) rfl ?_)
                  | (refine W_guard_no rfl rfl rfl ?_)
                first
                  | (refine W_guard_yes rfl ?_
                     refine W_len_sl Try.underlying23 rfl rfl ?_)
                  | (refine W_guard_no rfl rfl rfl ?_)
                first
                  | (refine W_guard_yes rfl ?_
                     refine W_move rfl rfl ?_)
                  | (refine W_guard_no rfl rfl rfl ?_)
                first
                  | (refine W_guard_yes rfl ?_
                     refine W_len_sl Try.underlying23 rfl rfl ?_)
                  | (refine W_guard_no rfl rfl rfl ?_)
                first
                  | (refine W_guard_yes rfl ?_
                     first
                       | (refine W_neq_t rfl rfl ?_ rfl ?_; (focus (omega)))
                       | (refine W_neq_f rfl rfl ?_ rfl ?_; (focus (omega)))
                       | (refine W_neq rfl rfl rfl ?_))
                  | (refine W_guard_no rfl rfl rfl ?_)
                first
                  | (refine W_pick_t rfl rfl rfl ?_)
                  | (refine W_pick_f rfl rfl rfl ?_)
                  | (refine W_pick_b rfl rfl rfl rfl ?_)
                refine W_move rfl rfl ?_
                first
                  | refine W_guard_lit_t rfl ?_
                  | refine W_guard_lit_f rfl ?_
                  | refine W_guard_split rfl rfl rfl (fun hg6 => ?_) (fun hg6 => ?_)
                all_goals (
                  try simp only [decide_eq_true_eq, decide_eq_false_iff_not, Bool.not_eq_true', Bool.not_eq_false', Bool.and_eq_true, Bool.or_eq_true, Bool.and_eq_false_iff, Bool.or_eq_false_iff, Bool.false_eq_true, Bool.true_eq_false, reduceCtorEq] at hg6
                  try (exfalso; first | contradiction | omega))
                all_goals (
                  first
                    | (refine W_guard_yes rfl ?_
                       refine W_move rfl rfl ?_)
                    | (refine W_guard_no rfl rfl rfl ?_)
                  first
                    | (refine W_guard_yes rfl ?_
                       refine W_move rfl rfl ?_)
                    | (refine W_guard_no rfl rfl rfl ?_)
                  first
                    | (refine W_guard_yes rfl ?_
                       refine W_pcall hp rfl (steps_spec a b (by omega) (by omega)) rfl ?_
                       clear hp; intro w hp)
                    | (refine W_guard_no rfl rfl rfl ?_)
                  first
                    | (refine W_guard_yes rfl ?_
                       refine W_move rfl rfl ?_)
                    | (refine W_guard_no rfl rfl rfl ?_)
                  first
                    | (refine W_guard_yes rfl ?_
                       refine W_len_sl Try.underlying23 rfl rfl ?_)
                    | (refine W_guard_no rfl rfl rfl ?_)
                  first
                    | (refine W_guard_yes rfl ?_
                       first
                         | (refine W_neq_t rfl rfl ?_ rfl ?_; (focus (omega)))
                         | (refine W_neq_f rfl rfl ?_ rfl ?_; (focus (omega)))
                         | (refine W_neq rfl rfl rfl ?_))
                    | (refine W_guard_no rfl rfl rfl ?_)
                  first
                    | (refine W_pick_t rfl rfl rfl ?_)
                    | (refine W_pick_f rfl rfl rfl ?_)
                    | (refine W_pick_b rfl rfl rfl rfl ?_)
                  refine W_nil ?_
                  refine N_then_k ?_
                  refine K_cond rfl (fun hc7 => ?_) (fun hc7 => ?_)
                  · try simp only [decide_eq_true_eq, decide_eq_false_iff_not, Bool.not_eq_true', Bool.not_eq_false', Bool.and_eq_true, Bool.or_eq_true, Bool.and_eq_false_iff, Bool.or_eq_false_iff, Bool.false_eq_true, Bool.true_eq_false, reduceCtorEq] at hc7
                    try (exfalso; first | contradiction | omega)
                    all_goals (
                      refine K_seq ?_
                      refine K_region ?_
                      refine W_assign rfl rfl ?_
                      refine W_nil ?_
                      refine N_then_k ?_
                      refine K_ret ?_
                      refine N_then_ret ?_
                      refine N_done1 (.inr rfl) rfl rfl ?_
                      exact ⟨_, rfl, rfl, hp.nil⟩)
                  · try simp only [decide_eq_true_eq, decide_eq_false_iff_not, Bool.not_eq_true', Bool.not_eq_false', Bool.and_eq_true, Bool.or_eq_true, Bool.and_eq_false_iff, Bool.or_eq_false_iff, Bool.false_eq_true, Bool.true_eq_false, reduceCtorEq] at hc7
                    try (exfalso; first | contradiction | omega)
                    all_goals (
                      refine K_skip ?_
                      refine N_then_k ?_
                      refine K_seq ?_
                      refine K_seq ?_
                      refine K_region ?_
                      refine W_assign rfl rfl ?_
                      refine W_nil ?_
                      refine N_then_k ?_
                      refine K_block ?_
                      refine K_loop (σ := Nat) [4, 8, 59, 60, 61, 62, 63, 64, 65, 66, 67, 68, 69, 70, 71, 72, 73, 74]
                          (fun k => [(8, .int .i64 k)])
                          (fun k w => Hp w0 [] (G ++ (b5, .cells [.slice A2 (max a.length b.length) c2].toArray 25) :: Hs) w ∧ k ≤ max a.length b.length)
                          (fun k => max a.length b.length - k) (0) ?_ ?_ ?_
                      · repeat' (first | exact sub_lst_nil (sub_nil _) | refine sub_lst rfl ?_ | (refine sub_lst_eq rfl ?_ ?_; · first | rfl | (simp; done) | (congr 1; omega)))
                      · exact ⟨hp, Nat.zero_le _⟩
                      · intro k w hJ
                        clear hp
                        obtain ⟨hp, hle⟩ := hJ
                        rcases Nat.lt_or_ge k (max a.length b.length) with hlt | hge
                        all_goals (
                          refine K_seq ?_
                          refine K_seq ?_
                          refine K_region ?_
                          refine W_move rfl rfl ?_
                          refine W_move rfl rfl ?_
                          refine W_len_sl Try.underlying23 rfl rfl ?_
                          first
                            | (refine W_lss_t rfl rfl ?_ rfl ?_; (focus (omega)))
                            | (refine W_lss_f rfl rfl ?_ rfl ?_; (focus (omega)))
                            | (refine W_lss rfl rfl rfl ?_)
                          refine W_nil ?_
                          refine N_then_k ?_
                          refine K_cond rfl (fun hc8 => ?_) (fun hc8 => ?_)
                          · try simp only [decide_eq_true_eq, decide_eq_false_iff_not, Bool.not_eq_true', Bool.not_eq_false', Bool.and_eq_true, Bool.or_eq_true, Bool.and_eq_false_iff, Bool.or_eq_false_iff, Bool.false_eq_true, Bool.true_eq_false, reduceCtorEq] at hc8
                            try (exfalso; first | contradiction | omega)
                            all_goals (
                              refine K_skip ?_
                              refine N_then_k ?_
                              refine K_seq ?_
                              refine K_block ?_
                              refine K_seq ?_
                              have hne : prs a b (max a.length b.length) ≠ [] := fun e => by have := prs_length a b (max a.length b.length); rw [e] at this; simp at this; omega
                              have hpa := prs_at a b _ k hlt
                              have hr1 : ∀ w, Hp w0 [] (G ++ (b5, .cells [.slice A2 (max a.length b.length) c2].toArray 25) :: Hs) w → Rd w (.slice A2 _ c2) _ _ := fun w hp => hos.rd (A := G ++ [(b5, .cells [.slice A2 (max a.length b.length) c2].toArray 25)]) (B := []) (by simpa using hp)
                              have hr2 : ∀ w, Hp w0 [] (G ++ (b5, .cells [.slice A2 (max a.length b.length) c2].toArray 25) :: Hs) w → Rd w (.slice A3 _ c3) _ _ := fun w hp => hos2.rd (A := []) (B := (b5, .cells [.slice A2 (max a.length b.length) c2].toArray 25) :: Hs) (by simpa using hp)
                              obtain ⟨ba, oa, rfl⟩ := (hr1 _ hp).some hne
                              obtain ⟨bb, ob, rfl⟩ := (hr2 _ hp).some hne
                              have hdr : ((prs a b (max a.length b.length)).drop (k * 2)).take 2 = [.int .u8 ((a.getD k 0).toNat : Int), .int .u8 ((b.getD k 0).toNat : Int)] := take2 hpa.1 hpa.2
                              refine K_quiet hm hp (by kernel_rfl) ?_
                              clear hp
                              refine Wq_val (fun w hp => R_fieldAddr Try.underlying25 rfl sz23 rfl) rfl ?_
                              refine Wq_val (fun w hp => R_load_s Try.underlying23 rfl rfl (by exact hp.cellF (List.mem_append_right _ List.mem_cons_self) rfl)) rfl ?_
                              refine Wq_val (fun w hp => R_move rfl) rfl ?_
                              refine Wq_val (fun w hp => R_indexAddr_sl Try.underlying23 sz31 rfl rfl ?_ ?_) rfl ?_
                              (focus (omega))
                              (focus (first | omega | (simp; omega)))
                              refine Wq_val (fun w hp => R_load_a (cs := [.int .u8 ((a.getD k 0).toNat : Int), .int .u8 ((b.getD k 0).toNat : Int)]) Try.underlying31 rfl sz31 rfl rfl ((hr1 w hp).at hdr)) rfl ?_
                              refine Wq_val (fun w hp => R_move rfl) rfl ?_
                              refine Wq_val (fun w hp => R_move rfl) rfl ?_
                              refine Wq_val (fun w hp => R_indexAddr_sl Try.underlying23 sz31 rfl rfl ?_ ?_) rfl ?_
                              (focus (omega))
                              (focus (first | omega | (simp; omega)))
                              refine Wq_val (fun w hp => R_load_a (cs := [.int .u8 ((a.getD k 0).toNat : Int), .int .u8 ((b.getD k 0).toNat : Int)]) Try.underlying31 rfl sz31 rfl rfl ((hr2 w hp).at hdr)) rfl ?_
                              refine Wq_val (fun w hp => R_aneq_f (by kernel_rfl) rfl rfl ?_ ?_) rfl ?_
                              (focus (first | rfl | assumption))
                              (focus (first | rfl | kernel_rfl))
                              refine Wq_end ?_
                              intro w hp
                              refine N_then_k ?_
                              refine K_cond rfl (fun hc9 => ?_) (fun hc9 => ?_)
                              · try simp only [decide_eq_true_eq, decide_eq_false_iff_not, Bool.not_eq_true', Bool.not_eq_false', Bool.and_eq_true, Bool.or_eq_true, Bool.and_eq_false_iff, Bool.or_eq_false_iff, Bool.false_eq_true, Bool.true_eq_false, reduceCtorEq] at hc9
                                try (exfalso; first | contradiction | omega)
                                all_goals (
                                  refine K_seq ?_
                                  refine K_region ?_
                                  refine W_assign rfl rfl ?_
                                  refine W_nil ?_
                                  refine N_then_k ?_
                                  refine K_ret ?_
                                  refine N_block_ret ?_
                                  refine N_then_ret ?_
                                  refine N_then_ret ?_
                                  refine N_block_ret ?_
                                  refine N_then_ret ?_
                                  refine N_done1 (.inr rfl) rfl rfl ?_
                                  exact ⟨_, rfl, rfl, hp.nil⟩)
                              · try simp only [decide_eq_true_eq, decide_eq_false_iff_not, Bool.not_eq_true', Bool.not_eq_false', Bool.and_eq_true, Bool.or_eq_true, Bool.and_eq_false_iff, Bool.or_eq_false_iff, Bool.false_eq_true, Bool.true_eq_false, reduceCtorEq] at hc9
                                try (exfalso; first | contradiction | omega)
                                all_goals (
                                  refine K_skip ?_
                                  refine N_block_normal ?_
                                  refine N_then_k ?_
                                  refine K_region ?_
                                  refine W_move rfl rfl ?_
                                  first
                                    | (refine W_add rfl rfl (wr_i64 ?_) rfl ?_; (focus (omega)))
                                    | (refine W_add rfl rfl rfl rfl ?_)
                                  refine W_assign rfl rfl ?_
                                  refine W_nil ?_
                                  refine N_again (k + 1) (sub_end ?_ ?_) ?_ ?_
                                  · repeat' (first | exact sub_lst_nil (sub_nil _) | refine sub_lst rfl ?_ | (refine sub_lst_eq rfl ?_ ?_; · first | rfl | (simp; done) | (congr 1; omega)))
                                  · repeat' (first | exact sub_refl _ | exact sub_strip _ _ | refine sub_s_cons rfl ?_ | refine sub_s_lst rfl ?_ | refine sub_s_strip rfl ?_)
                                  · exact ⟨hp, hlt⟩
                                  · omega))
                          · try simp only [decide_eq_true_eq, decide_eq_false_iff_not, Bool.not_eq_true', Bool.not_eq_false', Bool.and_eq_true, Bool.or_eq_true, Bool.and_eq_false_iff, Bool.or_eq_false_iff, Bool.false_eq_true, Bool.true_eq_false, reduceCtorEq] at hc8
                            try (exfalso; first | contradiction | omega)
                            all_goals (
                              refine K_exit ?_
                              refine N_then_exit ?_
                              refine N_then_exit ?_
                              refine N_block_exit ?_
                              refine N_then_k ?_
                              refine K_seq ?_
                              refine K_region ?_
                              refine W_assign rfl rfl ?_
                              refine W_nil ?_
                              refine N_then_k ?_
                              refine K_ret ?_
                              refine N_done1 (.inr rfl) rfl rfl ?_
                              exact ⟨_, rfl, rfl, hp.nil⟩))))))))))

end Go.Proofs.Ytpeefiakmidkcaa
