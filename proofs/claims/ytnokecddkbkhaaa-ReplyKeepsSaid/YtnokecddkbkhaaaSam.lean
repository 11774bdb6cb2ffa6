/-
  Comparisons of responses, walked.
-/
import Derived.Test.YtnokecddkbkhaaaRep
namespace Go.Proofs.Ytnokecddkbkhaaa
open Go.Sx Go.RowKit
set_option linter.unusedVariables false
set_option linter.unusedSimpArgs false
set_option maxRecDepth 100000

theorem take_same {α : Type} {L M : List α} {k : Nat} {p q : α} (h : L.take k = M.take k) (hc : L[k]? = some p) (hd : M[k]? = some q) (e : p = q) : L.take (k + 1) = M.take (k + 1) := by
  rw [List.take_add_one, List.take_add_one, h, hc, hd, e]
theorem ne_at {α : Type} {L M : List α} {k : Nat} {p q : α} (hc : L[k]? = some p) (hd : M[k]? = some q) (e : p ≠ q) : L ≠ M := fun h => e (by rw [h, hd] at hc; exact (Option.some.inj hc).symm)
theorem same_end {α : Type} {L M : List α} {k : Nat} (h : L.take k = M.take k) (hl : L.length = M.length) (hk : L.length ≤ k) : L = M := by
  rwa [List.take_of_length_le hk, List.take_of_length_le (by omega)] at h

theorem eqf_spec (w0 : World) (L M : List RPair) (Aa Ab : Option Addr) (ca cb : Nat) (hra : Rd w0 (.slice Aa L.length ca) L.length (pairC L)) (hrb : Rd w0 (.slice Ab M.length cb) M.length (pairC M)) (hn : L.length ≤ 100000000) : PureAt Try.prog 45 [.slice Aa L.length ca, .slice Ab M.length cb] (.bool (decide (L = M))) w0 := by
  by_cases hlen : L.length = M.length
  all_goals (
   refine PureAt.intro go45 Try.func45 rfl rfl fun hp => ?_
   refine (fun (hk : ∀ w, Hp w0 [] [] w → K _ _ _ _ _ w) => hk w0 hp) fun w hp => ?_
   refine K_seq ?_
   refine K_region ?_
   refine W_assign rfl rfl ?_
   refine W_nil ?_
   refine N_then_k ?_
   refine K_seq ?_
   refine K_seq ?_
   refine K_region ?_
   refine W_move rfl rfl ?_
   refine W_len_sl Try.underlying30 rfl rfl ?_
   refine W_move rfl rfl ?_
   refine W_len_sl Try.underlying30 rfl rfl ?_
   first
     | (refine W_neq_t rfl rfl ?_ rfl ?_; (focus (omega)))
     | (refine W_neq_f rfl rfl ?_ rfl ?_; (focus (omega)))
     | (refine W_neq rfl rfl rfl ?_)
   refine W_nil ?_
   refine N_then_k ?_
   first
     | refine K_cond_d rfl (fun hc1 => ?_) (fun hc1 => ?_)
     | refine K_cond_n rfl (fun hc1 => ?_) (fun hc1 => ?_)
     | refine K_cond_nb rfl (fun hc1 => ?_) (fun hc1 => ?_)
     | refine K_cond_t rfl (fun hc1 => ?_) (fun hc1 => ?_)
   · try (exfalso; first | omega | (simp only [Bool.false_eq_true, reduceCtorEq] at hc1; done) | (refine absurd hc1 ?_; with_reducible assumption) | (refine absurd ?_ hc1; with_reducible assumption))
     all_goals (
      refine K_seq ?_
      refine K_region ?_
      refine W_assign rfl rfl ?_
      refine W_nil ?_
      refine N_then_k ?_
      refine K_ret ?_
      refine N_then_ret ?_
      refine N_done1 (.inr rfl) rfl rfl ?_
      first
        | exact ⟨_, rfl, congrArg Value.bool (decide_eq_false fun e => hlen (by rw [e])).symm, hp.nil⟩
        | exact ⟨_, rfl, congrArg Value.bool (decide_eq_false (ne_at hc hd hpq)).symm, hp.nil⟩
        | exact ⟨_, rfl, congrArg Value.bool (decide_eq_true (same_end ht hlen hge)).symm, hp.nil⟩)
   · try (exfalso; first | omega | (simp only [Bool.false_eq_true, reduceCtorEq] at hc1; done) | (refine absurd hc1 ?_; with_reducible assumption) | (refine absurd ?_ hc1; with_reducible assumption))
     all_goals (
      refine K_skip ?_
      refine N_then_k ?_
      refine K_seq ?_
      refine K_seq ?_
      refine K_region ?_
      refine W_move rfl rfl ?_
      refine W_len_sl Try.underlying30 rfl rfl ?_
      refine W_move rfl rfl ?_
      refine W_nil ?_
      refine N_then_k ?_
      refine K_block ?_
      refine K_loop (σ := Nat) [4, 5, 13, 14, 15, 16, 17, 18, 19, 20, 21, 22, 23, 24, 25]
          (fun k => [(13, .int .i64 k)])
          (fun k w => Hp w0 [] [] w ∧ k ≤ L.length ∧ L.take k = M.take k)
          (fun k => L.length - k) (0) ?_ ?_ ?_
      · repeat' (first | exact sub_lst_nil (sub_nil _) | refine sub_lst rfl ?_ | (refine sub_lst_eq rfl ?_ ?_; · first | rfl | (simp; done) | (congr 1; omega)))
      · exact ⟨hp, Nat.zero_le _, rfl⟩
      · intro k w hJ
        clear hp
        obtain ⟨hp, hle, ht⟩ := hJ
        rcases Nat.lt_or_ge k L.length with hlt | hge
        all_goals (
         refine K_seq ?_
         refine K_region ?_
         first
           | (refine W_lss_t rfl rfl ?_ rfl ?_; (focus (omega)))
           | (refine W_lss_f rfl rfl ?_ rfl ?_; (focus (omega)))
           | (refine W_lss rfl rfl rfl ?_)
         refine W_nil ?_
         refine N_then_k ?_
         refine K_seq ?_
         first
           | refine K_cond_d rfl (fun hc2 => ?_) (fun hc2 => ?_)
           | refine K_cond_n rfl (fun hc2 => ?_) (fun hc2 => ?_)
           | refine K_cond_nb rfl (fun hc2 => ?_) (fun hc2 => ?_)
           | refine K_cond_t rfl (fun hc2 => ?_) (fun hc2 => ?_)
         · try (exfalso; first | omega | (simp only [Bool.false_eq_true, reduceCtorEq] at hc2; done) | (refine absurd hc2 ?_; with_reducible assumption) | (refine absurd ?_ hc2; with_reducible assumption))
           all_goals (
            refine K_skip ?_
            refine N_then_k ?_
            refine K_seq ?_
            refine K_block ?_
            refine K_seq ?_
            refine K_region ?_
            refine W_move rfl rfl ?_
            refine W_assign rfl rfl ?_
            refine W_nil ?_
            refine N_then_k ?_
            refine K_seq ?_
            obtain ⟨p, hc⟩ : ∃ p, L[k]? = some p := ⟨_, List.getElem?_eq_getElem hlt⟩
            obtain ⟨q, hd⟩ : ∃ q, M[k]? = some q := ⟨_, List.getElem?_eq_getElem (by omega)⟩
            obtain ⟨hc1, hc2⟩ := pairC_at hc
            obtain ⟨hd1, hd2⟩ := pairC_at hd
            obtain ⟨ba, oa, rfl⟩ := hra.some (by intro e; rw [e] at hc1; simp at hc1)
            obtain ⟨bb, ob, rfl⟩ := hrb.some (by intro e; rw [e] at hd1; simp at hd1)
            have ha1 := hra.cell hc1
            have ha2 := hra.cell hc2
            have hb1 := hrb.cell hd1
            have hb2 := hrb.cell hd2
            have hqq : (!decide ((p.1, p.2) = (q.1, q.2))) = !decide (p = q) := rfl
            rcases Decidable.em (p = q) with hpq | hpq
            all_goals (
             refine K_quiet hm hp (by kernel_rfl) ?_
             clear hp
             refine Wq_val (fun w hp => R_move rfl) rfl ?_
             refine Wq_val (fun w hp => R_move rfl) rfl ?_
             refine Wq_val (fun w hp => R_indexAddr_sl Try.underlying30 sz45 rfl rfl ?_ ?_) rfl ?_
             (focus (omega))
             (focus (first | omega | (simp; done) | (simp; omega)))
             refine Wq_val (fun w hp => R_load_a (cs := [strV p.1, strV p.2]) Try.underlying45 rfl sz45 rfl rfl (fun j u hj => by
                 rcases j with _ | _ | j
                 · obtain rfl := Option.some.inj hj; exact hp.cell_old0 (by rw [show oa + (k : Int).toNat * 2 + 0 = oa + 2 * k by omega]; exact ha1)
                 · obtain rfl := Option.some.inj hj; exact hp.cell_old0 (by rw [show oa + (k : Int).toNat * 2 + (0 + 1) = oa + (2 * k + 1) by omega]; exact ha2)
                 · simp at hj)) rfl ?_
             refine Wq_val (fun w hp => R_move rfl) rfl ?_
             refine Wq_val (fun w hp => R_move rfl) rfl ?_
             refine Wq_val (fun w hp => R_indexAddr_sl Try.underlying30 sz45 rfl rfl ?_ ?_) rfl ?_
             (focus (omega))
             (focus (first | omega | (simp; done) | (simp; omega)))
             refine Wq_val (fun w hp => R_load_a (cs := [strV q.1, strV q.2]) Try.underlying45 rfl sz45 rfl rfl (fun j u hj => by
                 rcases j with _ | _ | j
                 · obtain rfl := Option.some.inj hj; exact hp.cell_old0 (by rw [show ob + (k : Int).toNat * 2 + 0 = ob + 2 * k by omega]; exact hb1)
                 · obtain rfl := Option.some.inj hj; exact hp.cell_old0 (by rw [show ob + (k : Int).toNat * 2 + (0 + 1) = ob + (2 * k + 1) by omega]; exact hb2)
                 · simp at hj)) rfl ?_

             first
               | (refine Wq_val (fun w hp => R_ssne_r (r := false) (by kernel_rfl) Try.underlying45 (by kernel_rfl) rfl rfl rfl rfl Try.underlying9 Try.underlying9 rfl rfl (by rw [hqq, decide_eq_true hpq]; rfl)) rfl ?_)
               | (refine Wq_val (fun w hp => R_ssne_r (r := true) (by kernel_rfl) Try.underlying45 (by kernel_rfl) rfl rfl rfl rfl Try.underlying9 Try.underlying9 rfl rfl (by rw [hqq, decide_eq_false hpq]; rfl)) rfl ?_)
             refine Wq_end ?_
             intro w hp
             refine N_then_k ?_
             first
               | refine K_cond_d rfl (fun hc3 => ?_) (fun hc3 => ?_)
               | refine K_cond_n rfl (fun hc3 => ?_) (fun hc3 => ?_)
               | refine K_cond_nb rfl (fun hc3 => ?_) (fun hc3 => ?_)
               | refine K_cond_t rfl (fun hc3 => ?_) (fun hc3 => ?_)
             · try (exfalso; first | omega | (simp only [Bool.false_eq_true, reduceCtorEq] at hc3; done) | (refine absurd hc3 ?_; with_reducible assumption) | (refine absurd ?_ hc3; with_reducible assumption))
               all_goals (
                refine K_seq ?_
                refine K_region ?_
                refine W_assign rfl rfl ?_
                refine W_nil ?_
                refine N_then_k ?_
                refine K_ret ?_
                refine N_block_ret ?_
                refine N_then_ret ?_
                refine N_then_ret ?_
                refine N_block_ret ?_
                refine N_then_ret ?_
                refine N_done1 (.inr rfl) rfl rfl ?_
                first
                  | exact ⟨_, rfl, congrArg Value.bool (decide_eq_false fun e => hlen (by rw [e])).symm, hp.nil⟩
                  | exact ⟨_, rfl, congrArg Value.bool (decide_eq_false (ne_at hc hd hpq)).symm, hp.nil⟩
                  | exact ⟨_, rfl, congrArg Value.bool (decide_eq_true (same_end ht hlen hge)).symm, hp.nil⟩)
             · try (exfalso; first | omega | (simp only [Bool.false_eq_true, reduceCtorEq] at hc3; done) | (refine absurd hc3 ?_; with_reducible assumption) | (refine absurd ?_ hc3; with_reducible assumption))
               all_goals (
                refine K_skip ?_
                refine N_block_normal ?_
                refine N_then_k ?_
                refine K_region ?_
                first
                  | (refine W_add rfl rfl (wr_i64 ?_) rfl ?_; (focus (omega)))
                  | (refine W_add rfl rfl rfl rfl ?_)
                refine W_move rfl rfl ?_
                refine W_nil ?_
                refine N_again (k + 1) (sub_end ?_ ?_) ?_ ?_
                · repeat' (first | exact sub_lst_nil (sub_nil _) | refine sub_lst rfl ?_ | (refine sub_lst_eq rfl ?_ ?_; · first | rfl | (simp; done) | (congr 1; omega)))
                · repeat' (first | exact sub_refl _ | exact sub_strip _ _ | refine sub_s_cons rfl ?_ | refine sub_s_lst rfl ?_ | refine sub_s_strip rfl ?_)
                · exact ⟨hp, hlt, take_same ht hc hd hpq⟩
                · omega)))
         · try (exfalso; first | omega | (simp only [Bool.false_eq_true, reduceCtorEq] at hc2; done) | (refine absurd hc2 ?_; with_reducible assumption) | (refine absurd ?_ hc2; with_reducible assumption))
           all_goals (
            refine K_exit ?_
            refine N_then_exit ?_
            refine N_then_exit ?_
            refine N_block_exit ?_
            refine N_then_k ?_
            refine K_seq ?_
            refine K_region ?_
            refine W_assign rfl rfl ?_
            refine W_nil ?_
            refine N_then_k ?_
            refine K_ret ?_
            refine N_done1 (.inr rfl) rfl rfl ?_
            first
              | exact ⟨_, rfl, congrArg Value.bool (decide_eq_false fun e => hlen (by rw [e])).symm, hp.nil⟩
              | exact ⟨_, rfl, congrArg Value.bool (decide_eq_false (ne_at hc hd hpq)).symm, hp.nil⟩
              | exact ⟨_, rfl, congrArg Value.bool (decide_eq_true (same_end ht hlen hge)).symm, hp.nil⟩))))

theorem rsame11_spec (w0 : World) (L M : List RPair) (Aa Ab : Option Addr) (ca cb : Nat) (hra : Rd w0 (.slice Aa L.length ca) L.length (pairC L)) (hrb : Rd w0 (.slice Ab M.length cb) M.length (pairC M)) (hn : L.length ≤ 100000000) : PureAt Try.prog 30 [.slice Aa L.length ca, .slice Ab M.length cb] (.bool (decide (L = M))) w0 := by
  by_cases hlen : L.length = M.length
  all_goals (
   refine PureAt.intro go30 Try.func30 rfl rfl fun hp => ?_
   refine (fun (hk : ∀ w, Hp w0 [] [] w → K _ _ _ _ _ w) => hk w0 hp) fun w hp => ?_
   refine K_seq ?_
   refine K_region ?_
   refine W_assign rfl rfl ?_
   refine W_nil ?_
   refine N_then_k ?_
   refine K_seq ?_
   refine K_seq ?_
   refine K_region ?_
   refine W_move rfl rfl ?_
   refine W_len_sl Try.underlying30 rfl rfl ?_
   refine W_move rfl rfl ?_
   refine W_len_sl Try.underlying30 rfl rfl ?_
   first
     | (refine W_neq_t rfl rfl ?_ rfl ?_; (focus (omega)))
     | (refine W_neq_f rfl rfl ?_ rfl ?_; (focus (omega)))
     | (refine W_neq rfl rfl rfl ?_)
   refine W_nil ?_
   refine N_then_k ?_
   first
     | refine K_cond_d rfl (fun hc1 => ?_) (fun hc1 => ?_)
     | refine K_cond_n rfl (fun hc1 => ?_) (fun hc1 => ?_)
     | refine K_cond_nb rfl (fun hc1 => ?_) (fun hc1 => ?_)
     | refine K_cond_t rfl (fun hc1 => ?_) (fun hc1 => ?_)
   · try (exfalso; first | omega | (simp only [Bool.false_eq_true, reduceCtorEq] at hc1; done) | (refine absurd hc1 ?_; with_reducible assumption) | (refine absurd ?_ hc1; with_reducible assumption))
     all_goals (
      refine K_seq ?_
      refine K_region ?_
      refine W_assign rfl rfl ?_
      refine W_nil ?_
      refine N_then_k ?_
      refine K_ret ?_
      refine N_then_ret ?_
      refine N_done1 (.inr rfl) rfl rfl ?_
      first
        | exact ⟨_, rfl, congrArg Value.bool (decide_eq_false fun e => hlen (by rw [e])).symm, hp.nil⟩
        | exact ⟨_, rfl, congrArg Value.bool (decide_eq_false (ne_at hc hd hpq)).symm, hp.nil⟩
        | exact ⟨_, rfl, congrArg Value.bool (decide_eq_true (same_end ht hlen hge)).symm, hp.nil⟩)
   · try (exfalso; first | omega | (simp only [Bool.false_eq_true, reduceCtorEq] at hc1; done) | (refine absurd hc1 ?_; with_reducible assumption) | (refine absurd ?_ hc1; with_reducible assumption))
     all_goals (
      refine K_skip ?_
      refine N_then_k ?_
      refine K_seq ?_
      refine K_seq ?_
      refine K_region ?_
      refine W_assign rfl rfl ?_
      refine W_nil ?_
      refine N_then_k ?_
      refine K_block ?_
      refine K_loop (σ := Nat) [4, 5, 11, 12, 13, 14, 15, 16, 17, 18, 19, 20, 21, 22, 23, 24, 25]
          (fun k => [(5, .int .i64 k)])
          (fun k w => Hp w0 [] [] w ∧ k ≤ L.length ∧ L.take k = M.take k)
          (fun k => L.length - k) (0) ?_ ?_ ?_
      · repeat' (first | exact sub_lst_nil (sub_nil _) | refine sub_lst rfl ?_ | (refine sub_lst_eq rfl ?_ ?_; · first | rfl | (simp; done) | (congr 1; omega)))
      · exact ⟨hp, Nat.zero_le _, rfl⟩
      · intro k w hJ
        clear hp
        obtain ⟨hp, hle, ht⟩ := hJ
        rcases Nat.lt_or_ge k L.length with hlt | hge
        all_goals (
         refine K_seq ?_
         refine K_seq ?_
         refine K_region ?_
         refine W_move rfl rfl ?_
         refine W_move rfl rfl ?_
         refine W_len_sl Try.underlying30 rfl rfl ?_
         first
           | (refine W_lss_t rfl rfl ?_ rfl ?_; (focus (omega)))
           | (refine W_lss_f rfl rfl ?_ rfl ?_; (focus (omega)))
           | (refine W_lss rfl rfl rfl ?_)
         refine W_nil ?_
         refine N_then_k ?_
         first
           | refine K_cond_d rfl (fun hc2 => ?_) (fun hc2 => ?_)
           | refine K_cond_n rfl (fun hc2 => ?_) (fun hc2 => ?_)
           | refine K_cond_nb rfl (fun hc2 => ?_) (fun hc2 => ?_)
           | refine K_cond_t rfl (fun hc2 => ?_) (fun hc2 => ?_)
         · try (exfalso; first | omega | (simp only [Bool.false_eq_true, reduceCtorEq] at hc2; done) | (refine absurd hc2 ?_; with_reducible assumption) | (refine absurd ?_ hc2; with_reducible assumption))
           all_goals (
            refine K_skip ?_
            refine N_then_k ?_
            refine K_seq ?_
            refine K_block ?_
            refine K_seq ?_
            obtain ⟨p, hc⟩ : ∃ p, L[k]? = some p := ⟨_, List.getElem?_eq_getElem hlt⟩
            obtain ⟨q, hd⟩ : ∃ q, M[k]? = some q := ⟨_, List.getElem?_eq_getElem (by omega)⟩
            obtain ⟨hc1, hc2⟩ := pairC_at hc
            obtain ⟨hd1, hd2⟩ := pairC_at hd
            obtain ⟨ba, oa, rfl⟩ := hra.some (by intro e; rw [e] at hc1; simp at hc1)
            obtain ⟨bb, ob, rfl⟩ := hrb.some (by intro e; rw [e] at hd1; simp at hd1)
            have ha1 := hra.cell hc1
            have ha2 := hra.cell hc2
            have hb1 := hrb.cell hd1
            have hb2 := hrb.cell hd2
            have hqq : (!decide ((p.1, p.2) = (q.1, q.2))) = !decide (p = q) := rfl
            rcases Decidable.em (p = q) with hpq | hpq
            all_goals (
             refine K_quiet hm hp (by kernel_rfl) ?_
             clear hp
             refine Wq_val (fun w hp => R_move rfl) rfl ?_
             refine Wq_val (fun w hp => R_move rfl) rfl ?_
             refine Wq_val (fun w hp => R_indexAddr_sl Try.underlying30 sz45 rfl rfl ?_ ?_) rfl ?_
             (focus (omega))
             (focus (first | omega | (simp; done) | (simp; omega)))
             refine Wq_val (fun w hp => R_load_a (cs := [strV p.1, strV p.2]) Try.underlying45 rfl sz45 rfl rfl (fun j u hj => by
                 rcases j with _ | _ | j
                 · obtain rfl := Option.some.inj hj; exact hp.cell_old0 (by rw [show oa + (k : Int).toNat * 2 + 0 = oa + 2 * k by omega]; exact ha1)
                 · obtain rfl := Option.some.inj hj; exact hp.cell_old0 (by rw [show oa + (k : Int).toNat * 2 + (0 + 1) = oa + (2 * k + 1) by omega]; exact ha2)
                 · simp at hj)) rfl ?_
             refine Wq_val (fun w hp => R_move rfl) rfl ?_
             refine Wq_val (fun w hp => R_move rfl) rfl ?_
             refine Wq_val (fun w hp => R_indexAddr_sl Try.underlying30 sz45 rfl rfl ?_ ?_) rfl ?_
             (focus (omega))
             (focus (first | omega | (simp; done) | (simp; omega)))
             refine Wq_val (fun w hp => R_load_a (cs := [strV q.1, strV q.2]) Try.underlying45 rfl sz45 rfl rfl (fun j u hj => by
                 rcases j with _ | _ | j
                 · obtain rfl := Option.some.inj hj; exact hp.cell_old0 (by rw [show ob + (k : Int).toNat * 2 + 0 = ob + 2 * k by omega]; exact hb1)
                 · obtain rfl := Option.some.inj hj; exact hp.cell_old0 (by rw [show ob + (k : Int).toNat * 2 + (0 + 1) = ob + (2 * k + 1) by omega]; exact hb2)
                 · simp at hj)) rfl ?_

             first
               | (refine Wq_val (fun w hp => R_ssne_r (r := false) (by kernel_rfl) Try.underlying45 (by kernel_rfl) rfl rfl rfl rfl Try.underlying9 Try.underlying9 rfl rfl (by rw [hqq, decide_eq_true hpq]; rfl)) rfl ?_)
               | (refine Wq_val (fun w hp => R_ssne_r (r := true) (by kernel_rfl) Try.underlying45 (by kernel_rfl) rfl rfl rfl rfl Try.underlying9 Try.underlying9 rfl rfl (by rw [hqq, decide_eq_false hpq]; rfl)) rfl ?_)
             refine Wq_end ?_
             intro w hp
             refine N_then_k ?_
             first
               | refine K_cond_d rfl (fun hc3 => ?_) (fun hc3 => ?_)
               | refine K_cond_n rfl (fun hc3 => ?_) (fun hc3 => ?_)
               | refine K_cond_nb rfl (fun hc3 => ?_) (fun hc3 => ?_)
               | refine K_cond_t rfl (fun hc3 => ?_) (fun hc3 => ?_)
             · try (exfalso; first | omega | (simp only [Bool.false_eq_true, reduceCtorEq] at hc3; done) | (refine absurd hc3 ?_; with_reducible assumption) | (refine absurd ?_ hc3; with_reducible assumption))
               all_goals (
                refine K_seq ?_
                refine K_region ?_
                refine W_assign rfl rfl ?_
                refine W_nil ?_
                refine N_then_k ?_
                refine K_ret ?_
                refine N_block_ret ?_
                refine N_then_ret ?_
                refine N_then_ret ?_
                refine N_block_ret ?_
                refine N_then_ret ?_
                refine N_done1 (.inr rfl) rfl rfl ?_
                first
                  | exact ⟨_, rfl, congrArg Value.bool (decide_eq_false fun e => hlen (by rw [e])).symm, hp.nil⟩
                  | exact ⟨_, rfl, congrArg Value.bool (decide_eq_false (ne_at hc hd hpq)).symm, hp.nil⟩
                  | exact ⟨_, rfl, congrArg Value.bool (decide_eq_true (same_end ht hlen hge)).symm, hp.nil⟩)
             · try (exfalso; first | omega | (simp only [Bool.false_eq_true, reduceCtorEq] at hc3; done) | (refine absurd hc3 ?_; with_reducible assumption) | (refine absurd ?_ hc3; with_reducible assumption))
               all_goals (
                refine K_skip ?_
                refine N_block_normal ?_
                refine N_then_k ?_
                refine K_region ?_
                refine W_move rfl rfl ?_
                first
                  | (refine W_add rfl rfl (wr_i64 ?_) rfl ?_; (focus (omega)))
                  | (refine W_add rfl rfl rfl rfl ?_)
                refine W_assign rfl rfl ?_
                refine W_nil ?_
                refine N_again (k + 1) (sub_end ?_ ?_) ?_ ?_
                · repeat' (first | exact sub_lst_nil (sub_nil _) | refine sub_lst rfl ?_ | (refine sub_lst_eq rfl ?_ ?_; · first | rfl | (simp; done) | (congr 1; omega)))
                · repeat' (first | exact sub_refl _ | exact sub_strip _ _ | refine sub_s_cons rfl ?_ | refine sub_s_lst rfl ?_ | refine sub_s_strip rfl ?_)
                · exact ⟨hp, hlt, take_same ht hc hd hpq⟩
                · omega)))
         · try (exfalso; first | omega | (simp only [Bool.false_eq_true, reduceCtorEq] at hc2; done) | (refine absurd hc2 ?_; with_reducible assumption) | (refine absurd ?_ hc2; with_reducible assumption))
           all_goals (
            refine K_exit ?_
            refine N_then_exit ?_
            refine N_then_exit ?_
            refine N_block_exit ?_
            refine N_then_k ?_
            refine K_seq ?_
            refine K_region ?_
            refine W_assign rfl rfl ?_
            refine W_nil ?_
            refine N_then_k ?_
            refine K_ret ?_
            refine N_done1 (.inr rfl) rfl rfl ?_
            first
              | exact ⟨_, rfl, congrArg Value.bool (decide_eq_false fun e => hlen (by rw [e])).symm, hp.nil⟩
              | exact ⟨_, rfl, congrArg Value.bool (decide_eq_false (ne_at hc hd hpq)).symm, hp.nil⟩
              | exact ⟨_, rfl, congrArg Value.bool (decide_eq_true (same_end ht hlen hge)).symm, hp.nil⟩))))

theorem eqb_spec (w0 : World) (L M : List UInt8) (Aa Ab : Option Addr) (ca cb : Nat) (hra : Rd w0 (.slice Aa L.length ca) L.length (bytesV L)) (hrb : Rd w0 (.slice Ab M.length cb) M.length (bytesV M)) (hn : L.length ≤ 100000000) : PureAt Try.prog 46 [.slice Aa L.length ca, .slice Ab M.length cb] (.bool (decide (L = M))) w0 := by
  by_cases hlen : L.length = M.length
  all_goals (
   refine PureAt.intro go46 Try.func46 rfl rfl fun hp => ?_
   refine (fun (hk : ∀ w, Hp w0 [] [] w → K _ _ _ _ _ w) => hk w0 hp) fun w hp => ?_
   refine K_seq ?_
   refine K_region ?_
   refine W_assign rfl rfl ?_
   refine W_nil ?_
   refine N_then_k ?_
   refine K_seq ?_
   refine K_seq ?_
   refine K_region ?_
   refine W_move rfl rfl ?_
   refine W_len_sl Try.underlying23 rfl rfl ?_
   refine W_move rfl rfl ?_
   refine W_len_sl Try.underlying23 rfl rfl ?_
   first
     | (refine W_neq_t rfl rfl ?_ rfl ?_; (focus (omega)))
     | (refine W_neq_f rfl rfl ?_ rfl ?_; (focus (omega)))
     | (refine W_neq rfl rfl rfl ?_)
   refine W_nil ?_
   refine N_then_k ?_
   first
     | refine K_cond_d rfl (fun hc1 => ?_) (fun hc1 => ?_)
     | refine K_cond_n rfl (fun hc1 => ?_) (fun hc1 => ?_)
     | refine K_cond_nb rfl (fun hc1 => ?_) (fun hc1 => ?_)
     | refine K_cond_t rfl (fun hc1 => ?_) (fun hc1 => ?_)
   · try (exfalso; first | omega | (simp only [Bool.false_eq_true, reduceCtorEq] at hc1; done) | (refine absurd hc1 ?_; with_reducible assumption) | (refine absurd ?_ hc1; with_reducible assumption))
     all_goals (
      refine K_seq ?_
      refine K_region ?_
      refine W_assign rfl rfl ?_
      refine W_nil ?_
      refine N_then_k ?_
      refine K_ret ?_
      refine N_then_ret ?_
      refine N_done1 (.inr rfl) rfl rfl ?_
      first
        | exact ⟨_, rfl, congrArg Value.bool (decide_eq_false fun e => hlen (by rw [e])).symm, hp.nil⟩
        | exact ⟨_, rfl, congrArg Value.bool (decide_eq_false (ne_at hc hd hpq)).symm, hp.nil⟩
        | exact ⟨_, rfl, congrArg Value.bool (decide_eq_true (same_end ht hlen hge)).symm, hp.nil⟩)
   · try (exfalso; first | omega | (simp only [Bool.false_eq_true, reduceCtorEq] at hc1; done) | (refine absurd hc1 ?_; with_reducible assumption) | (refine absurd ?_ hc1; with_reducible assumption))
     all_goals (
      refine K_skip ?_
      refine N_then_k ?_
      refine K_seq ?_
      refine K_seq ?_
      refine K_region ?_
      refine W_move rfl rfl ?_
      refine W_len_sl Try.underlying23 rfl rfl ?_
      refine W_move rfl rfl ?_
      refine W_nil ?_
      refine N_then_k ?_
      refine K_block ?_
      refine K_loop (σ := Nat) [4, 5, 13, 14, 15, 16, 17, 18, 19, 20, 21, 22, 23, 24, 25]
          (fun k => [(13, .int .i64 k)])
          (fun k w => Hp w0 [] [] w ∧ k ≤ L.length ∧ L.take k = M.take k)
          (fun k => L.length - k) (0) ?_ ?_ ?_
      · repeat' (first | exact sub_lst_nil (sub_nil _) | refine sub_lst rfl ?_ | (refine sub_lst_eq rfl ?_ ?_; · first | rfl | (simp; done) | (congr 1; omega)))
      · exact ⟨hp, Nat.zero_le _, rfl⟩
      · intro k w hJ
        clear hp
        obtain ⟨hp, hle, ht⟩ := hJ
        rcases Nat.lt_or_ge k L.length with hlt | hge
        all_goals (
         refine K_seq ?_
         refine K_region ?_
         first
           | (refine W_lss_t rfl rfl ?_ rfl ?_; (focus (omega)))
           | (refine W_lss_f rfl rfl ?_ rfl ?_; (focus (omega)))
           | (refine W_lss rfl rfl rfl ?_)
         refine W_nil ?_
         refine N_then_k ?_
         refine K_seq ?_
         first
           | refine K_cond_d rfl (fun hc2 => ?_) (fun hc2 => ?_)
           | refine K_cond_n rfl (fun hc2 => ?_) (fun hc2 => ?_)
           | refine K_cond_nb rfl (fun hc2 => ?_) (fun hc2 => ?_)
           | refine K_cond_t rfl (fun hc2 => ?_) (fun hc2 => ?_)
         · try (exfalso; first | omega | (simp only [Bool.false_eq_true, reduceCtorEq] at hc2; done) | (refine absurd hc2 ?_; with_reducible assumption) | (refine absurd ?_ hc2; with_reducible assumption))
           all_goals (
            refine K_skip ?_
            refine N_then_k ?_
            refine K_seq ?_
            refine K_block ?_
            refine K_seq ?_
            refine K_region ?_
            refine W_move rfl rfl ?_
            refine W_assign rfl rfl ?_
            refine W_nil ?_
            refine N_then_k ?_
            refine K_seq ?_
            obtain ⟨p, hc⟩ : ∃ p, L[k]? = some p := ⟨_, List.getElem?_eq_getElem hlt⟩
            obtain ⟨q, hd⟩ : ∃ q, M[k]? = some q := ⟨_, List.getElem?_eq_getElem (by omega)⟩
            have hc1 := bytesV_at hc
            have hd1 := bytesV_at hd
            obtain ⟨ba, oa, rfl⟩ := hra.some (by intro e; rw [e] at hc1; simp at hc1)
            obtain ⟨bb, ob, rfl⟩ := hrb.some (by intro e; rw [e] at hd1; simp at hd1)
            have ha1 := hra.cell hc1
            have hb1 := hrb.cell hd1
            have hpu : p = q ↔ p.toNat = q.toNat := ⟨fun e => by rw [e], fun e => UInt8.toNat_inj.1 e⟩
            rcases Decidable.em (p = q) with hpq | hpq
            all_goals have hpv := hpq
            all_goals rw [hpu] at hpv
            all_goals (
             refine K_quiet hm hp (by kernel_rfl) ?_
             clear hp
             refine Wq_val (fun w hp => R_move rfl) rfl ?_
             refine Wq_val (fun w hp => R_move rfl) rfl ?_
             refine Wq_val (fun w hp => R_indexAddr_sl Try.underlying23 sz5 rfl rfl ?_ ?_) rfl ?_
             (focus (omega))
             (focus (first | omega | (simp; done) | (simp; omega)))
             refine Wq_val (fun w hp => R_load_s Try.underlying5 rfl rfl (by exact hp.cell_old0 (by simpa using ha1))) rfl ?_
             refine Wq_val (fun w hp => R_move rfl) rfl ?_
             refine Wq_val (fun w hp => R_move rfl) rfl ?_
             refine Wq_val (fun w hp => R_indexAddr_sl Try.underlying23 sz5 rfl rfl ?_ ?_) rfl ?_
             (focus (omega))
             (focus (first | omega | (simp; done) | (simp; omega)))
             refine Wq_val (fun w hp => R_load_s Try.underlying5 rfl rfl (by exact hp.cell_old0 (by simpa using hb1))) rfl ?_
             first
               | (refine Wq_val (fun w hp => R_neq_t rfl rfl ?_) rfl ?_; (focus (omega)))
               | (refine Wq_val (fun w hp => R_neq_f rfl rfl ?_) rfl ?_; (focus (omega)))
               | (refine Wq_val (fun w hp => R_neq rfl rfl) rfl ?_)
             refine Wq_end ?_
             intro w hp
             refine N_then_k ?_
             first
               | refine K_cond_d rfl (fun hc3 => ?_) (fun hc3 => ?_)
               | refine K_cond_n rfl (fun hc3 => ?_) (fun hc3 => ?_)
               | refine K_cond_nb rfl (fun hc3 => ?_) (fun hc3 => ?_)
               | refine K_cond_t rfl (fun hc3 => ?_) (fun hc3 => ?_)
             · try (exfalso; first | omega | (simp only [Bool.false_eq_true, reduceCtorEq] at hc3; done) | (refine absurd hc3 ?_; with_reducible assumption) | (refine absurd ?_ hc3; with_reducible assumption))
               all_goals (
                refine K_seq ?_
                refine K_region ?_
                refine W_assign rfl rfl ?_
                refine W_nil ?_
                refine N_then_k ?_
                refine K_ret ?_
                refine N_block_ret ?_
                refine N_then_ret ?_
                refine N_then_ret ?_
                refine N_block_ret ?_
                refine N_then_ret ?_
                refine N_done1 (.inr rfl) rfl rfl ?_
                first
                  | exact ⟨_, rfl, congrArg Value.bool (decide_eq_false fun e => hlen (by rw [e])).symm, hp.nil⟩
                  | exact ⟨_, rfl, congrArg Value.bool (decide_eq_false (ne_at hc hd hpq)).symm, hp.nil⟩
                  | exact ⟨_, rfl, congrArg Value.bool (decide_eq_true (same_end ht hlen hge)).symm, hp.nil⟩)
             · try (exfalso; first | omega | (simp only [Bool.false_eq_true, reduceCtorEq] at hc3; done) | (refine absurd hc3 ?_; with_reducible assumption) | (refine absurd ?_ hc3; with_reducible assumption))
               all_goals (
                refine K_skip ?_
                refine N_block_normal ?_
                refine N_then_k ?_
                refine K_region ?_
                first
                  | (refine W_add rfl rfl (wr_i64 ?_) rfl ?_; (focus (omega)))
                  | (refine W_add rfl rfl rfl rfl ?_)
                refine W_move rfl rfl ?_
                refine W_nil ?_
                refine N_again (k + 1) (sub_end ?_ ?_) ?_ ?_
                · repeat' (first | exact sub_lst_nil (sub_nil _) | refine sub_lst rfl ?_ | (refine sub_lst_eq rfl ?_ ?_; · first | rfl | (simp; done) | (congr 1; omega)))
                · repeat' (first | exact sub_refl _ | exact sub_strip _ _ | refine sub_s_cons rfl ?_ | refine sub_s_lst rfl ?_ | refine sub_s_strip rfl ?_)
                · exact ⟨hp, hlt, take_same ht hc hd hpq⟩
                · omega)))
         · try (exfalso; first | omega | (simp only [Bool.false_eq_true, reduceCtorEq] at hc2; done) | (refine absurd hc2 ?_; with_reducible assumption) | (refine absurd ?_ hc2; with_reducible assumption))
           all_goals (
            refine K_exit ?_
            refine N_then_exit ?_
            refine N_then_exit ?_
            refine N_block_exit ?_
            refine N_then_k ?_
            refine K_seq ?_
            refine K_region ?_
            refine W_assign rfl rfl ?_
            refine W_nil ?_
            refine N_then_k ?_
            refine K_ret ?_
            refine N_done1 (.inr rfl) rfl rfl ?_
            first
              | exact ⟨_, rfl, congrArg Value.bool (decide_eq_false fun e => hlen (by rw [e])).symm, hp.nil⟩
              | exact ⟨_, rfl, congrArg Value.bool (decide_eq_false (ne_at hc hd hpq)).symm, hp.nil⟩
              | exact ⟨_, rfl, congrArg Value.bool (decide_eq_true (same_end ht hlen hge)).symm, hp.nil⟩))))

set_option maxHeartbeats 800000 in
theorem same_spec (w0 : World) (s1 s2 : Int) (L1 L2 : List RPair) (B1 B2 : List UInt8) (A1 A2 C1 C2 : Option Addr) (a1 a2 c1 c2 : Nat) (h1 : Rd w0 (.slice A1 L1.length a1) L1.length (pairC L1)) (h2 : Rd w0 (.slice A2 L2.length a2) L2.length (pairC L2)) (g1 : Rd w0 (.slice C1 B1.length c1) B1.length (bytesV B1)) (g2 : Rd w0 (.slice C2 B2.length c2) B2.length (bytesV B2)) (n1 : L1.length ≤ 100000000) (n2 : B1.length ≤ 100000000) (n3 : B2.length ≤ 100000000) : PureAt Try.prog 26 [.agg #[.int .i64 s1, .slice A1 L1.length a1, .slice C1 B1.length c1], .agg #[.int .i64 s2, .slice A2 L2.length a2, .slice C2 B2.length c2]] (.bool (decide (s1 = s2 ∧ L1 = L2 ∧ B1 = B2))) w0 := by
  rcases (show (s1 ≠ s2) ∨ (s1 = s2 ∧ L1 ≠ L2) ∨ (s1 = s2 ∧ L1 = L2 ∧ B1 ≠ B2) ∨ (s1 = s2 ∧ L1 = L2 ∧ B1 = B2) by
    by_cases e1 : s1 = s2 <;> by_cases e2 : L1 = L2 <;> by_cases e3 : B1 = B2 <;> simp [e1, e2, e3]) with e1 | ⟨e1, e2⟩ | ⟨e1, e2, e3⟩ | ⟨e1, e2, e3⟩
  all_goals (
   refine PureAt.intro go26 Try.func26 rfl rfl fun hp => ?_
   refine (fun (hk : ∀ w, Hp w0 [] [] w → K _ _ _ _ _ w) => hk w0 hp) fun w hp => ?_
   refine K_seq ?_
   refine K_region ?_
   refine W_box hp rfl rfl rfl ?_
   clear hp; intro b2 w hp
   refine W_box hp rfl rfl rfl ?_
   clear hp; intro b3 w hp
   refine W_assign rfl rfl ?_
   refine W_nil ?_
   refine N_then_k ?_
   refine K_seq ?_
   refine K_region ?_
   refine W_fieldAddr Try.underlying32 rfl sz29 rfl rfl ?_
   refine W_load_s Try.underlying29 rfl rfl (by first | exact hp.cellF (by first | exact List.mem_cons_self | exact .tail _ (.head _) | exact .tail _ (.tail _ (.head _)) | exact .tail _ (.tail _ (.tail _ (.head _))) | exact .tail _ (.tail _ (.tail _ (.tail _ (.head _)))) | exact .tail _ (.tail _ (.tail _ (.tail _ (.tail _ (.head _))))) | exact List.mem_append_right _ (.head _) | exact List.mem_append_right _ (.tail _ (.head _)) | exact List.mem_append_right _ (.tail _ (.tail _ (.head _))) | exact .tail _ (List.mem_append_right _ (.head _)) | exact .tail _ (List.mem_append_right _ (.tail _ (.head _))) | assumption | (repeat (first | exact List.mem_cons_self | apply List.mem_append_right | apply List.mem_cons_of_mem))) rfl | exact hp.cellM (by first | exact List.mem_cons_self | exact .tail _ (.head _) | exact .tail _ (.tail _ (.head _)) | exact .tail _ (.tail _ (.tail _ (.head _))) | exact .tail _ (.tail _ (.tail _ (.tail _ (.head _)))) | exact .tail _ (.tail _ (.tail _ (.tail _ (.tail _ (.head _))))) | exact List.mem_append_right _ (.head _) | exact List.mem_append_right _ (.tail _ (.head _)) | exact List.mem_append_right _ (.tail _ (.tail _ (.head _))) | exact .tail _ (List.mem_append_right _ (.head _)) | exact .tail _ (List.mem_append_right _ (.tail _ (.head _))) | assumption | (repeat (first | exact List.mem_cons_self | apply List.mem_append_right | apply List.mem_cons_of_mem))) rfl | exact hp.cell_old0 ‹_› | (refine hp.cell_old0 ?_; assumption) | (apply hp.cellF (by assumption); rfl)) rfl ?_
   refine W_fieldAddr Try.underlying32 rfl sz29 rfl rfl ?_
   refine W_load_s Try.underlying29 rfl rfl (by first | exact hp.cellF (by first | exact List.mem_cons_self | exact .tail _ (.head _) | exact .tail _ (.tail _ (.head _)) | exact .tail _ (.tail _ (.tail _ (.head _))) | exact .tail _ (.tail _ (.tail _ (.tail _ (.head _)))) | exact .tail _ (.tail _ (.tail _ (.tail _ (.tail _ (.head _))))) | exact List.mem_append_right _ (.head _) | exact List.mem_append_right _ (.tail _ (.head _)) | exact List.mem_append_right _ (.tail _ (.tail _ (.head _))) | exact .tail _ (List.mem_append_right _ (.head _)) | exact .tail _ (List.mem_append_right _ (.tail _ (.head _))) | assumption | (repeat (first | exact List.mem_cons_self | apply List.mem_append_right | apply List.mem_cons_of_mem))) rfl | exact hp.cellM (by first | exact List.mem_cons_self | exact .tail _ (.head _) | exact .tail _ (.tail _ (.head _)) | exact .tail _ (.tail _ (.tail _ (.head _))) | exact .tail _ (.tail _ (.tail _ (.tail _ (.head _)))) | exact .tail _ (.tail _ (.tail _ (.tail _ (.tail _ (.head _))))) | exact List.mem_append_right _ (.head _) | exact List.mem_append_right _ (.tail _ (.head _)) | exact List.mem_append_right _ (.tail _ (.tail _ (.head _))) | exact .tail _ (List.mem_append_right _ (.head _)) | exact .tail _ (List.mem_append_right _ (.tail _ (.head _))) | assumption | (repeat (first | exact List.mem_cons_self | apply List.mem_append_right | apply List.mem_cons_of_mem))) rfl | exact hp.cell_old0 ‹_› | (refine hp.cell_old0 ?_; assumption) | (apply hp.cellF (by assumption); rfl)) rfl ?_
   first
     | (refine W_eql_t rfl rfl ?_ rfl ?_; (focus (omega)))
     | (refine W_eql_f rfl rfl ?_ rfl ?_; (focus (omega)))
     | (refine W_eql rfl rfl rfl ?_)
   refine W_move rfl rfl ?_
   first
     | refine W_guard_lit_t rfl ?_
     | refine W_guard_lit_f rfl ?_
     | refine W_guard_lit_u rfl ?_
     | refine W_guard_split_d rfl rfl rfl (fun hg1 => ?_) (fun hg1 => ?_)
     | refine W_guard_split_n rfl rfl rfl (fun hg1 => ?_) (fun hg1 => ?_)
     | refine W_guard_split_nb rfl rfl rfl (fun hg1 => ?_) (fun hg1 => ?_)
     | refine W_guard_split rfl rfl rfl (fun hg1 => ?_) (fun hg1 => ?_)
   all_goals try (exfalso; first | omega | (simp only [Bool.false_eq_true, reduceCtorEq] at hg1; done) | (refine absurd hg1 ?_; with_reducible assumption) | (refine absurd ?_ hg1; with_reducible assumption))
   all_goals (
    first
      | (iterate 5 refine W_guard_no rfl rfl rfl ?_)
      | (iterate 5 refine W_guard_un rfl rfl ?_)
      | (refine W_guard_yes rfl ?_
         refine W_fieldAddr Try.underlying32 rfl sz30 rfl rfl ?_
         refine W_guard_yes rfl ?_
         refine W_load_s Try.underlying30 rfl rfl (by first | exact hp.cellF (by first | exact List.mem_cons_self | exact .tail _ (.head _) | exact .tail _ (.tail _ (.head _)) | exact .tail _ (.tail _ (.tail _ (.head _))) | exact .tail _ (.tail _ (.tail _ (.tail _ (.head _)))) | exact .tail _ (.tail _ (.tail _ (.tail _ (.tail _ (.head _))))) | exact List.mem_append_right _ (.head _) | exact List.mem_append_right _ (.tail _ (.head _)) | exact List.mem_append_right _ (.tail _ (.tail _ (.head _))) | exact .tail _ (List.mem_append_right _ (.head _)) | exact .tail _ (List.mem_append_right _ (.tail _ (.head _))) | assumption | (repeat (first | exact List.mem_cons_self | apply List.mem_append_right | apply List.mem_cons_of_mem))) rfl | exact hp.cellM (by first | exact List.mem_cons_self | exact .tail _ (.head _) | exact .tail _ (.tail _ (.head _)) | exact .tail _ (.tail _ (.tail _ (.head _))) | exact .tail _ (.tail _ (.tail _ (.tail _ (.head _)))) | exact .tail _ (.tail _ (.tail _ (.tail _ (.tail _ (.head _))))) | exact List.mem_append_right _ (.head _) | exact List.mem_append_right _ (.tail _ (.head _)) | exact List.mem_append_right _ (.tail _ (.tail _ (.head _))) | exact .tail _ (List.mem_append_right _ (.head _)) | exact .tail _ (List.mem_append_right _ (.tail _ (.head _))) | assumption | (repeat (first | exact List.mem_cons_self | apply List.mem_append_right | apply List.mem_cons_of_mem))) rfl | exact hp.cell_old0 ‹_› | (refine hp.cell_old0 ?_; assumption) | (apply hp.cellF (by assumption); rfl)) rfl ?_
         refine W_guard_yes rfl ?_
         refine W_fieldAddr Try.underlying32 rfl sz30 rfl rfl ?_
         refine W_guard_yes rfl ?_
         refine W_load_s Try.underlying30 rfl rfl (by first | exact hp.cellF (by first | exact List.mem_cons_self | exact .tail _ (.head _) | exact .tail _ (.tail _ (.head _)) | exact .tail _ (.tail _ (.tail _ (.head _))) | exact .tail _ (.tail _ (.tail _ (.tail _ (.head _)))) | exact .tail _ (.tail _ (.tail _ (.tail _ (.tail _ (.head _))))) | exact List.mem_append_right _ (.head _) | exact List.mem_append_right _ (.tail _ (.head _)) | exact List.mem_append_right _ (.tail _ (.tail _ (.head _))) | exact .tail _ (List.mem_append_right _ (.head _)) | exact .tail _ (List.mem_append_right _ (.tail _ (.head _))) | assumption | (repeat (first | exact List.mem_cons_self | apply List.mem_append_right | apply List.mem_cons_of_mem))) rfl | exact hp.cellM (by first | exact List.mem_cons_self | exact .tail _ (.head _) | exact .tail _ (.tail _ (.head _)) | exact .tail _ (.tail _ (.tail _ (.head _))) | exact .tail _ (.tail _ (.tail _ (.tail _ (.head _)))) | exact .tail _ (.tail _ (.tail _ (.tail _ (.tail _ (.head _))))) | exact List.mem_append_right _ (.head _) | exact List.mem_append_right _ (.tail _ (.head _)) | exact List.mem_append_right _ (.tail _ (.tail _ (.head _))) | exact .tail _ (List.mem_append_right _ (.head _)) | exact .tail _ (List.mem_append_right _ (.tail _ (.head _))) | assumption | (repeat (first | exact List.mem_cons_self | apply List.mem_append_right | apply List.mem_cons_of_mem))) rfl | exact hp.cell_old0 ‹_› | (refine hp.cell_old0 ?_; assumption) | (apply hp.cellF (by assumption); rfl)) rfl ?_
         refine W_guard_yes rfl ?_
         first
           | (refine W_acall hp rfl (((eqf_spec w L1 L2 _ _ _ _ (h1.keep hp) (h2.keep hp) n1).eq (congrArg Value.bool (decide_eq_true e2)))) rfl ?_)
           | (refine W_acall hp rfl (((eqf_spec w L1 L2 _ _ _ _ (h1.keep hp) (h2.keep hp) n1).eq (congrArg Value.bool (decide_eq_false e2)))) rfl ?_)
         clear hp; intro w hp)
    first
      | (refine W_pick_t rfl rfl rfl ?_)
      | (refine W_pick_f rfl rfl rfl ?_)
      | (refine W_pick_b rfl rfl rfl rfl ?_)
    refine W_move rfl rfl ?_
    first
      | refine W_guard_lit_t rfl ?_
      | refine W_guard_lit_f rfl ?_
      | refine W_guard_lit_u rfl ?_
      | refine W_guard_split_d rfl rfl rfl (fun hg2 => ?_) (fun hg2 => ?_)
      | refine W_guard_split_n rfl rfl rfl (fun hg2 => ?_) (fun hg2 => ?_)
      | refine W_guard_split_nb rfl rfl rfl (fun hg2 => ?_) (fun hg2 => ?_)
      | refine W_guard_split rfl rfl rfl (fun hg2 => ?_) (fun hg2 => ?_)
    all_goals try (exfalso; first | omega | (simp only [Bool.false_eq_true, reduceCtorEq] at hg2; done) | (refine absurd hg2 ?_; with_reducible assumption) | (refine absurd ?_ hg2; with_reducible assumption))
    all_goals (
     first
       | (iterate 5 refine W_guard_no rfl rfl rfl ?_)
       | (iterate 5 refine W_guard_un rfl rfl ?_)
       | (refine W_guard_yes rfl ?_
          refine W_fieldAddr Try.underlying32 rfl sz23 rfl rfl ?_
          refine W_guard_yes rfl ?_
          refine W_load_s Try.underlying23 rfl rfl (by first | exact hp.cellF (by first | exact List.mem_cons_self | exact .tail _ (.head _) | exact .tail _ (.tail _ (.head _)) | exact .tail _ (.tail _ (.tail _ (.head _))) | exact .tail _ (.tail _ (.tail _ (.tail _ (.head _)))) | exact .tail _ (.tail _ (.tail _ (.tail _ (.tail _ (.head _))))) | exact List.mem_append_right _ (.head _) | exact List.mem_append_right _ (.tail _ (.head _)) | exact List.mem_append_right _ (.tail _ (.tail _ (.head _))) | exact .tail _ (List.mem_append_right _ (.head _)) | exact .tail _ (List.mem_append_right _ (.tail _ (.head _))) | assumption | (repeat (first | exact List.mem_cons_self | apply List.mem_append_right | apply List.mem_cons_of_mem))) rfl | exact hp.cellM (by first | exact List.mem_cons_self | exact .tail _ (.head _) | exact .tail _ (.tail _ (.head _)) | exact .tail _ (.tail _ (.tail _ (.head _))) | exact .tail _ (.tail _ (.tail _ (.tail _ (.head _)))) | exact .tail _ (.tail _ (.tail _ (.tail _ (.tail _ (.head _))))) | exact List.mem_append_right _ (.head _) | exact List.mem_append_right _ (.tail _ (.head _)) | exact List.mem_append_right _ (.tail _ (.tail _ (.head _))) | exact .tail _ (List.mem_append_right _ (.head _)) | exact .tail _ (List.mem_append_right _ (.tail _ (.head _))) | assumption | (repeat (first | exact List.mem_cons_self | apply List.mem_append_right | apply List.mem_cons_of_mem))) rfl | exact hp.cell_old0 ‹_› | (refine hp.cell_old0 ?_; assumption) | (apply hp.cellF (by assumption); rfl)) rfl ?_
          refine W_guard_yes rfl ?_
          refine W_fieldAddr Try.underlying32 rfl sz23 rfl rfl ?_
          refine W_guard_yes rfl ?_
          refine W_load_s Try.underlying23 rfl rfl (by first | exact hp.cellF (by first | exact List.mem_cons_self | exact .tail _ (.head _) | exact .tail _ (.tail _ (.head _)) | exact .tail _ (.tail _ (.tail _ (.head _))) | exact .tail _ (.tail _ (.tail _ (.tail _ (.head _)))) | exact .tail _ (.tail _ (.tail _ (.tail _ (.tail _ (.head _))))) | exact List.mem_append_right _ (.head _) | exact List.mem_append_right _ (.tail _ (.head _)) | exact List.mem_append_right _ (.tail _ (.tail _ (.head _))) | exact .tail _ (List.mem_append_right _ (.head _)) | exact .tail _ (List.mem_append_right _ (.tail _ (.head _))) | assumption | (repeat (first | exact List.mem_cons_self | apply List.mem_append_right | apply List.mem_cons_of_mem))) rfl | exact hp.cellM (by first | exact List.mem_cons_self | exact .tail _ (.head _) | exact .tail _ (.tail _ (.head _)) | exact .tail _ (.tail _ (.tail _ (.head _))) | exact .tail _ (.tail _ (.tail _ (.tail _ (.head _)))) | exact .tail _ (.tail _ (.tail _ (.tail _ (.tail _ (.head _))))) | exact List.mem_append_right _ (.head _) | exact List.mem_append_right _ (.tail _ (.head _)) | exact List.mem_append_right _ (.tail _ (.tail _ (.head _))) | exact .tail _ (List.mem_append_right _ (.head _)) | exact .tail _ (List.mem_append_right _ (.tail _ (.head _))) | assumption | (repeat (first | exact List.mem_cons_self | apply List.mem_append_right | apply List.mem_cons_of_mem))) rfl | exact hp.cell_old0 ‹_› | (refine hp.cell_old0 ?_; assumption) | (apply hp.cellF (by assumption); rfl)) rfl ?_
          refine W_guard_yes rfl ?_
          first
            | (refine W_acall hp rfl (((eqb_spec w B1 B2 _ _ _ _ (g1.keep hp) (g2.keep hp) n2).eq (congrArg Value.bool (decide_eq_true e3)))) rfl ?_)
            | (refine W_acall hp rfl (((eqb_spec w B1 B2 _ _ _ _ (g1.keep hp) (g2.keep hp) n2).eq (congrArg Value.bool (decide_eq_false e3)))) rfl ?_)
          clear hp; intro w hp)
     first
       | (refine W_pick_t rfl rfl rfl ?_)
       | (refine W_pick_f rfl rfl rfl ?_)
       | (refine W_pick_b rfl rfl rfl rfl ?_)
     refine W_assign rfl rfl ?_
     refine W_nil ?_
     refine N_then_k ?_
     refine K_ret ?_
     refine N_done1 (.inr rfl) rfl rfl ?_
     exact ⟨_, rfl, congrArg Value.bool (by simp [*]), hp.nil⟩)))

set_option maxHeartbeats 800000 in
theorem rsame_spec (w0 : World) (s1 s2 : Int) (L1 L2 : List RPair) (B1 B2 : List UInt8) (A1 A2 C1 C2 : Option Addr) (a1 a2 c1 c2 : Nat) (h1 : Rd w0 (.slice A1 L1.length a1) L1.length (pairC L1)) (h2 : Rd w0 (.slice A2 L2.length a2) L2.length (pairC L2)) (g1 : Rd w0 (.slice C1 B1.length c1) B1.length (bytesV B1)) (g2 : Rd w0 (.slice C2 B2.length c2) B2.length (bytesV B2)) (n1 : L1.length ≤ 100000000) (n2 : B1.length ≤ 100000000) (n3 : B2.length ≤ 100000000) : PureAt Try.prog 10 [.agg #[.int .i64 s1, .slice A1 L1.length a1, .slice C1 B1.length c1], .agg #[.int .i64 s2, .slice A2 L2.length a2, .slice C2 B2.length c2]] (.bool (decide (s1 = s2 ∧ L1 = L2 ∧ B1 = B2))) w0 := by
  rcases (show (s1 ≠ s2) ∨ (s1 = s2 ∧ L1 ≠ L2) ∨ (s1 = s2 ∧ L1 = L2 ∧ B1 ≠ B2) ∨ (s1 = s2 ∧ L1 = L2 ∧ B1 = B2) by
    by_cases e1 : s1 = s2 <;> by_cases e2 : L1 = L2 <;> by_cases e3 : B1 = B2 <;> simp [e1, e2, e3]) with e1 | ⟨e1, e2⟩ | ⟨e1, e2, e3⟩ | ⟨e1, e2, e3⟩
  all_goals (
   refine PureAt.intro go10 Try.func10 rfl rfl fun hp => ?_
   refine (fun (hk : ∀ w, Hp w0 [] [] w → K _ _ _ _ _ w) => hk w0 hp) fun w hp => ?_
   refine K_seq ?_
   refine K_region ?_
   refine W_box hp rfl rfl rfl ?_
   clear hp; intro b2 w hp
   refine W_box hp rfl rfl rfl ?_
   clear hp; intro b3 w hp
   refine W_assign rfl rfl ?_
   refine W_nil ?_
   refine N_then_k ?_
   refine K_seq ?_
   refine K_region ?_
   refine W_fieldAddr Try.underlying32 rfl sz29 rfl rfl ?_
   refine W_load_s Try.underlying29 rfl rfl (by first | exact hp.cellF (by first | exact List.mem_cons_self | exact .tail _ (.head _) | exact .tail _ (.tail _ (.head _)) | exact .tail _ (.tail _ (.tail _ (.head _))) | exact .tail _ (.tail _ (.tail _ (.tail _ (.head _)))) | exact .tail _ (.tail _ (.tail _ (.tail _ (.tail _ (.head _))))) | exact List.mem_append_right _ (.head _) | exact List.mem_append_right _ (.tail _ (.head _)) | exact List.mem_append_right _ (.tail _ (.tail _ (.head _))) | exact .tail _ (List.mem_append_right _ (.head _)) | exact .tail _ (List.mem_append_right _ (.tail _ (.head _))) | assumption | (repeat (first | exact List.mem_cons_self | apply List.mem_append_right | apply List.mem_cons_of_mem))) rfl | exact hp.cellM (by first | exact List.mem_cons_self | exact .tail _ (.head _) | exact .tail _ (.tail _ (.head _)) | exact .tail _ (.tail _ (.tail _ (.head _))) | exact .tail _ (.tail _ (.tail _ (.tail _ (.head _)))) | exact .tail _ (.tail _ (.tail _ (.tail _ (.tail _ (.head _))))) | exact List.mem_append_right _ (.head _) | exact List.mem_append_right _ (.tail _ (.head _)) | exact List.mem_append_right _ (.tail _ (.tail _ (.head _))) | exact .tail _ (List.mem_append_right _ (.head _)) | exact .tail _ (List.mem_append_right _ (.tail _ (.head _))) | assumption | (repeat (first | exact List.mem_cons_self | apply List.mem_append_right | apply List.mem_cons_of_mem))) rfl | exact hp.cell_old0 ‹_› | (refine hp.cell_old0 ?_; assumption) | (apply hp.cellF (by assumption); rfl)) rfl ?_
   refine W_fieldAddr Try.underlying32 rfl sz29 rfl rfl ?_
   refine W_load_s Try.underlying29 rfl rfl (by first | exact hp.cellF (by first | exact List.mem_cons_self | exact .tail _ (.head _) | exact .tail _ (.tail _ (.head _)) | exact .tail _ (.tail _ (.tail _ (.head _))) | exact .tail _ (.tail _ (.tail _ (.tail _ (.head _)))) | exact .tail _ (.tail _ (.tail _ (.tail _ (.tail _ (.head _))))) | exact List.mem_append_right _ (.head _) | exact List.mem_append_right _ (.tail _ (.head _)) | exact List.mem_append_right _ (.tail _ (.tail _ (.head _))) | exact .tail _ (List.mem_append_right _ (.head _)) | exact .tail _ (List.mem_append_right _ (.tail _ (.head _))) | assumption | (repeat (first | exact List.mem_cons_self | apply List.mem_append_right | apply List.mem_cons_of_mem))) rfl | exact hp.cellM (by first | exact List.mem_cons_self | exact .tail _ (.head _) | exact .tail _ (.tail _ (.head _)) | exact .tail _ (.tail _ (.tail _ (.head _))) | exact .tail _ (.tail _ (.tail _ (.tail _ (.head _)))) | exact .tail _ (.tail _ (.tail _ (.tail _ (.tail _ (.head _))))) | exact List.mem_append_right _ (.head _) | exact List.mem_append_right _ (.tail _ (.head _)) | exact List.mem_append_right _ (.tail _ (.tail _ (.head _))) | exact .tail _ (List.mem_append_right _ (.head _)) | exact .tail _ (List.mem_append_right _ (.tail _ (.head _))) | assumption | (repeat (first | exact List.mem_cons_self | apply List.mem_append_right | apply List.mem_cons_of_mem))) rfl | exact hp.cell_old0 ‹_› | (refine hp.cell_old0 ?_; assumption) | (apply hp.cellF (by assumption); rfl)) rfl ?_
   first
     | (refine W_eql_t rfl rfl ?_ rfl ?_; (focus (omega)))
     | (refine W_eql_f rfl rfl ?_ rfl ?_; (focus (omega)))
     | (refine W_eql rfl rfl rfl ?_)
   refine W_move rfl rfl ?_
   first
     | refine W_guard_lit_t rfl ?_
     | refine W_guard_lit_f rfl ?_
     | refine W_guard_lit_u rfl ?_
     | refine W_guard_split_d rfl rfl rfl (fun hg1 => ?_) (fun hg1 => ?_)
     | refine W_guard_split_n rfl rfl rfl (fun hg1 => ?_) (fun hg1 => ?_)
     | refine W_guard_split_nb rfl rfl rfl (fun hg1 => ?_) (fun hg1 => ?_)
     | refine W_guard_split rfl rfl rfl (fun hg1 => ?_) (fun hg1 => ?_)
   all_goals try (exfalso; first | omega | (simp only [Bool.false_eq_true, reduceCtorEq] at hg1; done) | (refine absurd hg1 ?_; with_reducible assumption) | (refine absurd ?_ hg1; with_reducible assumption))
   all_goals (
    first
      | (iterate 5 refine W_guard_no rfl rfl rfl ?_)
      | (iterate 5 refine W_guard_un rfl rfl ?_)
      | (refine W_guard_yes rfl ?_
         refine W_fieldAddr Try.underlying32 rfl sz30 rfl rfl ?_
         refine W_guard_yes rfl ?_
         refine W_load_s Try.underlying30 rfl rfl (by first | exact hp.cellF (by first | exact List.mem_cons_self | exact .tail _ (.head _) | exact .tail _ (.tail _ (.head _)) | exact .tail _ (.tail _ (.tail _ (.head _))) | exact .tail _ (.tail _ (.tail _ (.tail _ (.head _)))) | exact .tail _ (.tail _ (.tail _ (.tail _ (.tail _ (.head _))))) | exact List.mem_append_right _ (.head _) | exact List.mem_append_right _ (.tail _ (.head _)) | exact List.mem_append_right _ (.tail _ (.tail _ (.head _))) | exact .tail _ (List.mem_append_right _ (.head _)) | exact .tail _ (List.mem_append_right _ (.tail _ (.head _))) | assumption | (repeat (first | exact List.mem_cons_self | apply List.mem_append_right | apply List.mem_cons_of_mem))) rfl | exact hp.cellM (by first | exact List.mem_cons_self | exact .tail _ (.head _) | exact .tail _ (.tail _ (.head _)) | exact .tail _ (.tail _ (.tail _ (.head _))) | exact .tail _ (.tail _ (.tail _ (.tail _ (.head _)))) | exact .tail _ (.tail _ (.tail _ (.tail _ (.tail _ (.head _))))) | exact List.mem_append_right _ (.head _) | exact List.mem_append_right _ (.tail _ (.head _)) | exact List.mem_append_right _ (.tail _ (.tail _ (.head _))) | exact .tail _ (List.mem_append_right _ (.head _)) | exact .tail _ (List.mem_append_right _ (.tail _ (.head _))) | assumption | (repeat (first | exact List.mem_cons_self | apply List.mem_append_right | apply List.mem_cons_of_mem))) rfl | exact hp.cell_old0 ‹_› | (refine hp.cell_old0 ?_; assumption) | (apply hp.cellF (by assumption); rfl)) rfl ?_
         refine W_guard_yes rfl ?_
         refine W_fieldAddr Try.underlying32 rfl sz30 rfl rfl ?_
         refine W_guard_yes rfl ?_
         refine W_load_s Try.underlying30 rfl rfl (by first | exact hp.cellF (by first | exact List.mem_cons_self | exact .tail _ (.head _) | exact .tail _ (.tail _ (.head _)) | exact .tail _ (.tail _ (.tail _ (.head _))) | exact .tail _ (.tail _ (.tail _ (.tail _ (.head _)))) | exact .tail _ (.tail _ (.tail _ (.tail _ (.tail _ (.head _))))) | exact List.mem_append_right _ (.head _) | exact List.mem_append_right _ (.tail _ (.head _)) | exact List.mem_append_right _ (.tail _ (.tail _ (.head _))) | exact .tail _ (List.mem_append_right _ (.head _)) | exact .tail _ (List.mem_append_right _ (.tail _ (.head _))) | assumption | (repeat (first | exact List.mem_cons_self | apply List.mem_append_right | apply List.mem_cons_of_mem))) rfl | exact hp.cellM (by first | exact List.mem_cons_self | exact .tail _ (.head _) | exact .tail _ (.tail _ (.head _)) | exact .tail _ (.tail _ (.tail _ (.head _))) | exact .tail _ (.tail _ (.tail _ (.tail _ (.head _)))) | exact .tail _ (.tail _ (.tail _ (.tail _ (.tail _ (.head _))))) | exact List.mem_append_right _ (.head _) | exact List.mem_append_right _ (.tail _ (.head _)) | exact List.mem_append_right _ (.tail _ (.tail _ (.head _))) | exact .tail _ (List.mem_append_right _ (.head _)) | exact .tail _ (List.mem_append_right _ (.tail _ (.head _))) | assumption | (repeat (first | exact List.mem_cons_self | apply List.mem_append_right | apply List.mem_cons_of_mem))) rfl | exact hp.cell_old0 ‹_› | (refine hp.cell_old0 ?_; assumption) | (apply hp.cellF (by assumption); rfl)) rfl ?_
         refine W_guard_yes rfl ?_
         first
           | (refine W_acall hp rfl (((rsame11_spec w L1 L2 _ _ _ _ (h1.keep hp) (h2.keep hp) n1).eq (congrArg Value.bool (decide_eq_true e2)))) rfl ?_)
           | (refine W_acall hp rfl (((rsame11_spec w L1 L2 _ _ _ _ (h1.keep hp) (h2.keep hp) n1).eq (congrArg Value.bool (decide_eq_false e2)))) rfl ?_)
         clear hp; intro w hp)
    first
      | (refine W_pick_t rfl rfl rfl ?_)
      | (refine W_pick_f rfl rfl rfl ?_)
      | (refine W_pick_b rfl rfl rfl rfl ?_)
    refine W_move rfl rfl ?_
    first
      | refine W_guard_lit_t rfl ?_
      | refine W_guard_lit_f rfl ?_
      | refine W_guard_lit_u rfl ?_
      | refine W_guard_split_d rfl rfl rfl (fun hg2 => ?_) (fun hg2 => ?_)
      | refine W_guard_split_n rfl rfl rfl (fun hg2 => ?_) (fun hg2 => ?_)
      | refine W_guard_split_nb rfl rfl rfl (fun hg2 => ?_) (fun hg2 => ?_)
      | refine W_guard_split rfl rfl rfl (fun hg2 => ?_) (fun hg2 => ?_)
    all_goals try (exfalso; first | omega | (simp only [Bool.false_eq_true, reduceCtorEq] at hg2; done) | (refine absurd hg2 ?_; with_reducible assumption) | (refine absurd ?_ hg2; with_reducible assumption))
    all_goals (
     first
       | (iterate 7 refine W_guard_no rfl rfl rfl ?_)
       | (iterate 7 refine W_guard_un rfl rfl ?_)
       | (refine W_guard_yes rfl ?_
          refine W_fieldAddr Try.underlying32 rfl sz23 rfl rfl ?_
          refine W_guard_yes rfl ?_
          refine W_load_s Try.underlying23 rfl rfl (by first | exact hp.cellF (by first | exact List.mem_cons_self | exact .tail _ (.head _) | exact .tail _ (.tail _ (.head _)) | exact .tail _ (.tail _ (.tail _ (.head _))) | exact .tail _ (.tail _ (.tail _ (.tail _ (.head _)))) | exact .tail _ (.tail _ (.tail _ (.tail _ (.tail _ (.head _))))) | exact List.mem_append_right _ (.head _) | exact List.mem_append_right _ (.tail _ (.head _)) | exact List.mem_append_right _ (.tail _ (.tail _ (.head _))) | exact .tail _ (List.mem_append_right _ (.head _)) | exact .tail _ (List.mem_append_right _ (.tail _ (.head _))) | assumption | (repeat (first | exact List.mem_cons_self | apply List.mem_append_right | apply List.mem_cons_of_mem))) rfl | exact hp.cellM (by first | exact List.mem_cons_self | exact .tail _ (.head _) | exact .tail _ (.tail _ (.head _)) | exact .tail _ (.tail _ (.tail _ (.head _))) | exact .tail _ (.tail _ (.tail _ (.tail _ (.head _)))) | exact .tail _ (.tail _ (.tail _ (.tail _ (.tail _ (.head _))))) | exact List.mem_append_right _ (.head _) | exact List.mem_append_right _ (.tail _ (.head _)) | exact List.mem_append_right _ (.tail _ (.tail _ (.head _))) | exact .tail _ (List.mem_append_right _ (.head _)) | exact .tail _ (List.mem_append_right _ (.tail _ (.head _))) | assumption | (repeat (first | exact List.mem_cons_self | apply List.mem_append_right | apply List.mem_cons_of_mem))) rfl | exact hp.cell_old0 ‹_› | (refine hp.cell_old0 ?_; assumption) | (apply hp.cellF (by assumption); rfl)) rfl ?_
          refine W_guard_yes rfl ?_
          refine W_conv_bs (a := B1) Try.underlying23 Try.underlying5 Try.underlying9 rfl (g1.keep hp) (by omega) rfl ?_
          refine W_guard_yes rfl ?_
          refine W_fieldAddr Try.underlying32 rfl sz23 rfl rfl ?_
          refine W_guard_yes rfl ?_
          refine W_load_s Try.underlying23 rfl rfl (by first | exact hp.cellF (by first | exact List.mem_cons_self | exact .tail _ (.head _) | exact .tail _ (.tail _ (.head _)) | exact .tail _ (.tail _ (.tail _ (.head _))) | exact .tail _ (.tail _ (.tail _ (.tail _ (.head _)))) | exact .tail _ (.tail _ (.tail _ (.tail _ (.tail _ (.head _))))) | exact List.mem_append_right _ (.head _) | exact List.mem_append_right _ (.tail _ (.head _)) | exact List.mem_append_right _ (.tail _ (.tail _ (.head _))) | exact .tail _ (List.mem_append_right _ (.head _)) | exact .tail _ (List.mem_append_right _ (.tail _ (.head _))) | assumption | (repeat (first | exact List.mem_cons_self | apply List.mem_append_right | apply List.mem_cons_of_mem))) rfl | exact hp.cellM (by first | exact List.mem_cons_self | exact .tail _ (.head _) | exact .tail _ (.tail _ (.head _)) | exact .tail _ (.tail _ (.tail _ (.head _))) | exact .tail _ (.tail _ (.tail _ (.tail _ (.head _)))) | exact .tail _ (.tail _ (.tail _ (.tail _ (.tail _ (.head _))))) | exact List.mem_append_right _ (.head _) | exact List.mem_append_right _ (.tail _ (.head _)) | exact List.mem_append_right _ (.tail _ (.tail _ (.head _))) | exact .tail _ (List.mem_append_right _ (.head _)) | exact .tail _ (List.mem_append_right _ (.tail _ (.head _))) | assumption | (repeat (first | exact List.mem_cons_self | apply List.mem_append_right | apply List.mem_cons_of_mem))) rfl | exact hp.cell_old0 ‹_› | (refine hp.cell_old0 ?_; assumption) | (apply hp.cellF (by assumption); rfl)) rfl ?_
          refine W_guard_yes rfl ?_
          refine W_conv_bs (a := B2) Try.underlying23 Try.underlying5 Try.underlying9 rfl (g2.keep hp) (by omega) rfl ?_
          refine W_guard_yes rfl ?_
          first
            | (refine W_seql_t rfl rfl ?_ rfl ?_; (focus (first | rfl | assumption)))
            | (refine W_seql_f rfl rfl ?_ rfl ?_; (focus (first | assumption | decide | exact List.cons_ne_nil _ _)))
            | (refine W_seql rfl rfl rfl ?_))
     first
       | (refine W_pick_t rfl rfl rfl ?_)
       | (refine W_pick_f rfl rfl rfl ?_)
       | (refine W_pick_b rfl rfl rfl rfl ?_)
     refine W_assign rfl rfl ?_
     refine W_nil ?_
     refine N_then_k ?_
     refine K_ret ?_
     refine N_done1 (.inr rfl) rfl rfl ?_
     exact ⟨_, rfl, congrArg Value.bool (by simp [*]), hp.nil⟩)))

end Go.Proofs.Ytnokecddkbkhaaa
