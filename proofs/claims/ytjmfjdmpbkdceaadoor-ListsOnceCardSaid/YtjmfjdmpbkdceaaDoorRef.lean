/-
  doorkeeperref12, walked.
-/
import Derived.Test.YtjmfjdmpbkdceaaDoorFns
namespace Go.Proofs.YtjmfjdmpbkdceaaDoor
open Go.Sx Go.RowKit
set_option linter.unusedVariables false
set_option linter.unusedSimpArgs false
set_option maxRecDepth 100000

theorem few_spec (w0 : World) (L : List (List UInt8)) (A : Option Addr) (cL : Nat) (hrl : Rd w0 (.slice A L.length cL) L.length (L.map strV)) (hn : L.length ≤ 9223372036854775807) : PureAt Tryd.prog 9 [.slice A L.length cL] (.bool (fewB L)) w0 := by
  refine PureAt.intro go9 Tryd.func9 rfl rfl fun hp => ?_
  refine (fun (hk : ∀ w, Hp w0 [] [] w → K _ _ _ _ _ w) => hk w0 hp) fun w hp => ?_
  refine K_seq ?_
  refine K_region ?_
  refine W_assign rfl rfl ?_
  refine W_nil ?_
  refine N_then_k ?_
  refine K_seq ?_
  refine K_seq ?_
  refine K_region ?_
  refine W_assign rfl rfl ?_
  refine W_nil ?_
  refine N_then_k ?_
  refine K_block ?_
  refine K_loop (σ := Nat) [2, 3, 4, 5, 6, 7, 8, 9, 10, 11, 12, 13, 14, 15]
      (fun k => [(3, .int .i64 k)])
      (fun k w => Hp w0 [] [] w ∧ k ≤ L.length ∧ (L.take k).all (fun v => decide (v.length ≤ 300)) = true)
      (fun k => L.length - k) (0) ?_ ?_ ?_
  · repeat' (first | exact sub_lst_nil (sub_nil _) | refine sub_lst rfl ?_ | (refine sub_lst_eq rfl ?_ ?_; · first | rfl | (simp; done) | (congr 1; omega)))
  · exact ⟨hp, Nat.zero_le _, rfl⟩
  · intro k w hJ
    clear hp
    obtain ⟨hp, hle, hall⟩ := hJ
    rcases Nat.lt_or_ge k L.length with hlt | hge
    all_goals (
     refine K_seq ?_
     refine K_seq ?_
     refine K_region ?_
     refine W_move rfl rfl ?_
     refine W_move rfl rfl ?_
     refine W_len_sl Tryd.underlying22 rfl rfl ?_
     first
       | (refine W_lss_t rfl rfl ?_ rfl ?_; (focus (omega)))
       | (refine W_lss_f rfl rfl ?_ rfl ?_; (focus (omega)))
       | (refine W_lss rfl rfl rfl ?_)
     refine W_nil ?_
     refine N_then_k ?_
     first
       | refine K_cond_d rfl (fun hc1 => ?_) (fun hc1 => ?_)
       | refine K_cond_n rfl (fun hc1 => ?_) (fun hc1 => ?_)
       | refine K_cond_nb rfl (fun hc1 => ?_) (fun hc1 => ?_)
       | refine K_cond_t rfl (fun hc1 => ?_) (fun hc1 => ?_)
     · try (exfalso; first | omega | (simp only [Bool.false_eq_true, reduceCtorEq] at hc1; done) | (refine absurd hc1 ?_; with_reducible assumption) | (refine absurd ?_ hc1; with_reducible assumption))
       all_goals (
        refine K_skip ?_
        refine N_then_k ?_
        refine K_seq ?_
        refine K_block ?_
        refine K_seq ?_
        obtain ⟨v, hv⟩ : ∃ x, L[k]? = some x := ⟨_, List.getElem?_eq_getElem hlt⟩
        have hvs := strV_at hv
        obtain ⟨bb, oo, rfl⟩ := hrl.some (by intro e; rw [e] at hvs; simp at hvs)
        have hcx := hrl.cell hvs
        refine K_region ?_
        refine W_move rfl rfl ?_
        refine W_move rfl rfl ?_
        refine W_indexAddr_sl Tryd.underlying22 sz9 rfl rfl ?_ ?_ rfl ?_
        (focus (omega))
        (focus (first | omega | (simp; done) | (simp; omega)))
        refine W_load_s Tryd.underlying9 rfl rfl (by exact hp.cell_old0 (by simpa using hcx)) rfl ?_
        refine W_len_s Tryd.underlying9 rfl rfl ?_
        first
          | (refine W_gtr_t rfl rfl ?_ rfl ?_; (focus (omega)))
          | (refine W_gtr_f rfl rfl ?_ rfl ?_; (focus (omega)))
          | (refine W_gtr rfl rfl rfl ?_)
        refine W_nil ?_
        refine N_then_k ?_
        first
          | refine K_cond_d rfl (fun hc2 => ?_) (fun hc2 => ?_)
          | refine K_cond_n rfl (fun hc2 => ?_) (fun hc2 => ?_)
          | refine K_cond_nb rfl (fun hc2 => ?_) (fun hc2 => ?_)
          | refine K_cond_t rfl (fun hc2 => ?_) (fun hc2 => ?_)
        · try (exfalso; first | omega | (simp only [Bool.false_eq_true, reduceCtorEq] at hc2; done) | (refine absurd hc2 ?_; with_reducible assumption) | (refine absurd ?_ hc2; with_reducible assumption))
          all_goals (
           refine K_seq ?_
           refine K_region ?_
           refine W_assign rfl rfl ?_
           refine W_nil ?_
           refine N_then_k ?_
           refine K_ret ?_
           refine N_block_ret ?_
           refine N_then_ret ?_
           refine N_then_ret ?_
           refine N_block_ret ?_
           refine N_then_ret ?_
           refine N_done1 (.inr rfl) rfl rfl ?_
           refine ⟨_, rfl, congrArg Value.bool ?_, hp.nil⟩
           unfold fewB
           first
             | (rw [all_no (p := fun v => decide (v.length ≤ 300)) hv (decide_eq_false (by omega))]; rfl)
             | (rw [List.take_of_length_le hge] at hall; rw [hall, Bool.true_and]; refine decide_eq_decide.2 ?_; omega))
        · try (exfalso; first | omega | (simp only [Bool.false_eq_true, reduceCtorEq] at hc2; done) | (refine absurd hc2 ?_; with_reducible assumption) | (refine absurd ?_ hc2; with_reducible assumption))
          all_goals (
           refine K_skip ?_
           refine N_block_normal ?_
           refine N_then_k ?_
           refine K_region ?_
           refine W_move rfl rfl ?_
           first
             | (refine W_add rfl rfl (wr_i64 ?_) rfl ?_; (focus (omega)))
             | (refine W_add rfl rfl rfl rfl ?_)
           refine W_assign rfl rfl ?_
           refine W_nil ?_
           refine N_again (k + 1) (sub_end ?_ ?_) ?_ ?_
           · repeat' (first | exact sub_lst_nil (sub_nil _) | refine sub_lst rfl ?_ | (refine sub_lst_eq rfl ?_ ?_; · first | rfl | (simp; done) | (congr 1; omega)))
           · repeat' (first | exact sub_refl _ | exact sub_strip _ _ | refine sub_s_cons rfl ?_ | refine sub_s_lst rfl ?_ | refine sub_s_strip rfl ?_)
           · exact ⟨hp, hlt, all_next (p := fun v => decide (v.length ≤ 300)) hv (decide_eq_true (by omega)) hall⟩
           · omega))
     · try (exfalso; first | omega | (simp only [Bool.false_eq_true, reduceCtorEq] at hc1; done) | (refine absurd hc1 ?_; with_reducible assumption) | (refine absurd ?_ hc1; with_reducible assumption))
       all_goals (
        refine K_exit ?_
        refine N_then_exit ?_
        refine N_then_exit ?_
        refine N_block_exit ?_
        refine N_then_k ?_
        refine K_seq ?_
        refine K_region ?_
        refine W_move rfl rfl ?_
        refine W_len_sl Tryd.underlying22 rfl rfl ?_
        first
          | (refine W_leq_t rfl rfl ?_ rfl ?_; (focus (omega)))
          | (refine W_leq_f rfl rfl ?_ rfl ?_; (focus (omega)))
          | (refine W_leq rfl rfl rfl ?_)
        refine W_assign rfl rfl ?_
        refine W_nil ?_
        refine N_then_k ?_
        refine K_ret ?_
        refine N_done1 (.inr rfl) rfl rfl ?_
        refine ⟨_, rfl, congrArg Value.bool ?_, hp.nil⟩
        unfold fewB
        first
          | (rw [all_no (p := fun v => decide (v.length ≤ 300)) hv (decide_eq_false (by omega))]; rfl)
          | (rw [List.take_of_length_le hge] at hall; rw [hall, Bool.true_and]; refine decide_eq_decide.2 ?_; omega)))

set_option maxHeartbeats 1000000 in
theorem relements_spec (w0 : World) (L : List (List UInt8)) (A : Option Addr) (cL : Nat) (hrl : Rd w0 (.slice A L.length cL) L.length (L.map strV)) (hn : L.length ≤ 1000) (hL : ∀ v ∈ L, v.length ≤ 100000) : RetB Tryd.prog 14 [.slice A L.length cL] (fun v G => OSs 9 v (elemsL L) G) w0 := by
  have hel := elemsL_len L hL
  refine RetB.intro go14 Tryd.func14 rfl rfl fun hp => ?_
  refine (fun (hk : ∀ w, Hp w0 [] [] w → K _ _ _ _ _ w) => hk w0 hp) fun w hp => ?_
  refine K_seq ?_
  refine K_region ?_
  refine W_assign rfl rfl ?_
  refine W_nil ?_
  refine N_then_k ?_
  refine K_seq ?_
  refine K_region ?_
  refine W_assign rfl rfl ?_
  refine W_nil ?_
  refine N_then_k ?_
  refine K_seq ?_
  refine K_seq ?_
  refine K_region ?_
  refine W_assign rfl rfl ?_
  refine W_nil ?_
  refine N_then_k ?_
  refine K_block ?_
  refine K_loop (σ := Nat × Value × Heap) [3, 4, 5, 6, 7, 8, 9, 10, 11, 12, 13, 14, 15, 16, 17, 18, 19, 20, 21, 22, 23, 24, 25, 26, 27, 28, 29, 30, 31, 32, 33, 34, 35, 36, 37, 38, 39, 40, 41, 42, 43]
      (fun q => [(4, .int .i64 q.1), (3, q.2.1)])
      (fun q w => OSs 9 q.2.1 (elemsL (L.take q.1)) q.2.2 ∧ Hp w0 [] q.2.2 w ∧ q.1 ≤ L.length)
      (fun q => L.length - q.1) ((0, .slice none 0 0, [])) ?_ ?_ ?_
  · repeat' (first | exact sub_lst_nil (sub_nil _) | refine sub_lst rfl ?_ | (refine sub_lst_eq rfl ?_ ?_; · first | rfl | (simp; done) | (congr 1; omega)))
  · exact ⟨OSs.nil, hp, Nat.zero_le _⟩
  · intro ⟨i, va, Hs⟩ w hJ
    clear hp
    obtain ⟨hos, hp, hle⟩ := hJ
    simp only at hos hp hle
    change K _ _ _ _ (.lst ([(4, .int .i64 i), (3, va)]) _) _
    obtain ⟨Av, cv, rfl⟩ := hos.form
    rcases Nat.lt_or_ge i L.length with hlt | hge
    all_goals (
     refine K_seq ?_
     refine K_seq ?_
     refine K_region ?_
     refine W_move rfl rfl ?_
     refine W_move rfl rfl ?_
     refine W_len_sl Tryd.underlying22 rfl rfl ?_
     first
       | (refine W_lss_t rfl rfl ?_ rfl ?_; (focus (omega)))
       | (refine W_lss_f rfl rfl ?_ rfl ?_; (focus (omega)))
       | (refine W_lss rfl rfl rfl ?_)
     refine W_nil ?_
     refine N_then_k ?_
     first
       | refine K_cond_d rfl (fun hc1 => ?_) (fun hc1 => ?_)
       | refine K_cond_n rfl (fun hc1 => ?_) (fun hc1 => ?_)
       | refine K_cond_nb rfl (fun hc1 => ?_) (fun hc1 => ?_)
       | refine K_cond_t rfl (fun hc1 => ?_) (fun hc1 => ?_)
     · try (exfalso; first | omega | (simp only [Bool.false_eq_true, reduceCtorEq] at hc1; done) | (refine absurd hc1 ?_; with_reducible assumption) | (refine absurd ?_ hc1; with_reducible assumption))
       all_goals (
        refine K_skip ?_
        refine N_then_k ?_
        refine K_seq ?_
        refine K_block ?_
        refine K_seq ?_
        refine K_region ?_
        refine W_assign rfl rfl ?_
        refine W_nil ?_
        refine N_then_k ?_
        refine K_seq ?_
        obtain ⟨v, hv⟩ : ∃ x, L[i]? = some x := ⟨_, List.getElem?_eq_getElem hlt⟩
        have hvs := strV_at hv
        obtain ⟨bb, oo, rfl⟩ := hrl.some (by intro e; rw [e] at hvs; simp at hvs)
        have hcx := hrl.cell hvs
        have hvl := hL v (List.mem_of_getElem? hv)
        have hvv : (v ++ [44]).length = v.length + 1 := by simp
        refine K_region ?_
        refine W_move rfl rfl ?_
        refine W_move rfl rfl ?_
        refine W_indexAddr_sl Tryd.underlying22 sz9 rfl rfl ?_ ?_ rfl ?_
        (focus (omega))
        (focus (first | omega | (simp; done) | (simp; omega)))
        refine W_load_s Tryd.underlying9 rfl rfl (by exact hp.cell_old0 (by simpa using hcx)) rfl ?_
        refine W_sadd rfl rfl ?_ rfl ?_
        (focus (first | omega | (simp only [List.length_append, List.length_cons, List.length_nil, List.length_drop, List.length_take] at *; omega) | (simp; omega)))
        refine W_assign rfl rfl ?_
        refine W_nil ?_
        refine N_then_k ?_
        refine K_seq ?_
        refine K_region ?_
        refine W_assign rfl rfl ?_
        refine W_nil ?_
        refine N_then_k ?_
        refine K_block ?_
        refine K_loop (σ := Nat × List (List UInt8) × List UInt8 × Value × Heap) [3, 5, 7, 19, 20, 21, 22, 23, 24, 25, 26, 27, 28, 29, 30, 31, 32, 33, 34, 35, 36, 37, 38, 39, 40, 41, 42, 43]
            (fun q => [(7, .int .i64 q.1), (5, .string ⟨q.2.2.1.toArray⟩), (3, q.2.2.2.1)])
            (fun q w => OSs 9 q.2.2.2.1 (elemsL (L.take i) ++ elemsP q.2.1) q.2.2.2.2 ∧ Hp w0 [] q.2.2.2.2 w ∧ splitB 44 ((v ++ [44]).take q.1) = q.2.1 ++ [q.2.2.1] ∧ q.1 ≤ v.length + 1 ∧ q.2.2.1.length ≤ q.1 ∧ q.2.1.length ≤ q.1)
            (fun q => v.length + 1 - q.1) ((0, [], [], .slice Av (elemsL (L.take i)).length cv, Hs)) ?_ ?_ ?_
        · repeat' (first | exact sub_lst_nil (sub_nil _) | refine sub_lst rfl ?_ | (refine sub_lst_eq rfl ?_ ?_; · first | rfl | (simp; done) | (congr 1; omega)))
        · exact ⟨by simpa [elemsP] using hos, hp, rfl, Nat.zero_le _, Nat.le_refl _, Nat.le_refl _⟩
        · intro ⟨k, D, p, va, Hs⟩ w hJ
          clear hp hos
          obtain ⟨hos, hp, hsp, hlek, hpk, hDk⟩ := hJ
          simp only at hos hp hsp hlek hpk hDk
          change K _ _ _ _ (.lst ([(7, .int .i64 k), (5, .string ⟨p.toArray⟩), (3, va)]) _) _
          obtain ⟨Av, cv, rfl⟩ := hos.form
          have hb1 : (elemsL (L.take i) ++ elemsP D).length ≤ 200000000 := by
            have h1 := elemsL_len (L.take i) (fun x hx => hL x (List.mem_of_mem_take hx))
            have h2 := elemsP_len D
            have h3 : (L.take i).length ≤ 1000 := by simp; omega
            rw [List.length_append]; omega
          rcases Nat.lt_or_ge k (v ++ [44]).length with hltk | hgek
          all_goals (
           refine K_seq ?_
           refine K_seq ?_
           refine K_region ?_
           refine W_move rfl rfl ?_
           refine W_move rfl rfl ?_
           refine W_len_s Tryd.underlying9 rfl rfl ?_
           first
             | (refine W_lss_t rfl rfl ?_ rfl ?_; (focus (omega)))
             | (refine W_lss_f rfl rfl ?_ rfl ?_; (focus (omega)))
             | (refine W_lss rfl rfl rfl ?_)
           refine W_nil ?_
           refine N_then_k ?_
           first
             | refine K_cond_d rfl (fun hc2 => ?_) (fun hc2 => ?_)
             | refine K_cond_n rfl (fun hc2 => ?_) (fun hc2 => ?_)
             | refine K_cond_nb rfl (fun hc2 => ?_) (fun hc2 => ?_)
             | refine K_cond_t rfl (fun hc2 => ?_) (fun hc2 => ?_)
           · try (exfalso; first | omega | (simp only [Bool.false_eq_true, reduceCtorEq] at hc2; done) | (refine absurd hc2 ?_; with_reducible assumption) | (refine absurd ?_ hc2; with_reducible assumption))
             all_goals (
              refine K_skip ?_
              refine N_then_k ?_
              refine K_seq ?_
              refine K_block ?_
              refine K_seq ?_
              refine K_seq ?_
              refine K_region ?_
              obtain ⟨x, hx⟩ : ∃ x, (v ++ [44])[k]? = some x := ⟨_, List.getElem?_eq_getElem hltk⟩
              have hu := x.toNat_lt
              have hsn := splitB_snoc x hsp
              have htk : (v ++ [44]).take (k + 1) = (v ++ [44]).take k ++ [x] := by rw [List.take_add_one, hx]; rfl
              rw [← htk] at hsn
              refine W_move rfl rfl ?_
              refine W_move rfl rfl ?_
              refine W_index_s (b := x) Tryd.underlying9 rfl rfl (by omega) (by exact hx) rfl ?_
              first
                | (refine W_neq_t rfl rfl ?_ rfl ?_; (focus (omega)))
                | (refine W_neq_f rfl rfl ?_ rfl ?_; (focus (omega)))
                | (refine W_neq rfl rfl rfl ?_)
              refine W_nil ?_
              refine N_then_k ?_
              first
                | refine K_cond_d rfl (fun hc3 => ?_) (fun hc3 => ?_)
                | refine K_cond_n rfl (fun hc3 => ?_) (fun hc3 => ?_)
                | refine K_cond_nb rfl (fun hc3 => ?_) (fun hc3 => ?_)
                | refine K_cond_t rfl (fun hc3 => ?_) (fun hc3 => ?_)
              · try (exfalso; first | omega | (simp only [Bool.false_eq_true, reduceCtorEq] at hc3; done) | (refine absurd hc3 ?_; with_reducible assumption) | (refine absurd ?_ hc3; with_reducible assumption))
                all_goals (
                 refine K_seq ?_
                 refine K_region ?_
                 refine W_move rfl rfl ?_
                 refine W_move rfl rfl ?_
                 refine W_move rfl rfl ?_
                 refine W_move rfl rfl ?_
                 first
                   | (refine W_add rfl rfl (wr_i64 ?_) rfl ?_; (focus (omega)))
                   | (refine W_add rfl rfl rfl rfl ?_)
                 refine W_slice_slh Tryd.underlying9 rfl rfl rfl ?_ ?_ ?_ rfl ?_
                 (focus (first | omega | (simp; omega) | (simp only [List.length_drop, List.length_take, List.length_append]; omega)))
                 (focus (first | omega | (simp; omega) | (simp only [List.length_drop, List.length_take, List.length_append]; omega)))
                 (focus (first | omega | (simp; omega) | (simp only [List.length_drop, List.length_take, List.length_append]; omega)))
                 rw [take1 hx]
                 refine W_sadd rfl rfl ?_ rfl ?_
                 (focus (first | omega | (simp only [List.length_append, List.length_cons, List.length_nil, List.length_drop, List.length_take] at *; omega) | (simp; omega)))
                 refine W_assign rfl rfl ?_
                 refine W_nil ?_
                 refine N_then_k ?_
                 refine K_exit ?_
                 refine N_then_exit ?_
                 refine N_block_exit ?_
                 refine N_then_k ?_
                 refine K_region ?_
                 refine W_move rfl rfl ?_
                 first
                   | (refine W_add rfl rfl (wr_i64 ?_) rfl ?_; (focus (omega)))
                   | (refine W_add rfl rfl rfl rfl ?_)
                 refine W_assign rfl rfl ?_
                 refine W_nil ?_
                 first
                   | (rw [if_neg (fun e => by have : x.toNat = 44 := by { rw [e]; rfl }; omega)] at hsn
                      refine N_again (k + 1, D, p ++ [x], .slice Av (elemsL (L.take i) ++ elemsP D).length cv, Hs) (sub_end ?_ ?_) ⟨hos, hp, hsn, by simp only; omega, by simp; omega, by simp only; omega⟩ ?_
                      · repeat' (first | exact sub_lst_nil (sub_nil _) | refine sub_lst rfl ?_ | (refine sub_lst_eq rfl ?_ ?_; · first | rfl | (simp; done) | (congr 1; omega)))
                      · repeat' (first | exact sub_refl _ | exact sub_strip _ _ | refine sub_s_cons rfl ?_ | refine sub_s_lst rfl ?_ | refine sub_s_strip rfl ?_)
                      · show _ < _; simp only; omega)
                   | (rw [if_pos (UInt8.toNat_inj.1 (show x.toNat = (44 : UInt8).toNat by show x.toNat = 44; omega))] at hsn
                      first
                        | (refine N_again (k + 1, D ++ [p], [], .slice Aa43 (elemsL (L.take i) ++ elemsP D ++ [trim p]).length ca43, Hs) (sub_end ?_ ?_) ⟨by show OSs _ _ (elemsL (L.take i) ++ elemsP (D ++ [p])) _; rw [elemsP_app, elemsP_one, if_neg (by assumption), ← List.append_assoc]; exact hos, by simpa using hp.drop (List.sublist_cons_self _ _), hsn, by simp only; omega, Nat.zero_le _, by simp; omega⟩ ?_
                           · repeat' (first | exact sub_lst_nil (sub_nil _) | refine sub_lst rfl ?_ | (refine sub_lst_eq rfl ?_ ?_; · first | rfl | (simp; done) | (congr 1; omega)))
                           · repeat' (first | exact sub_refl _ | exact sub_strip _ _ | refine sub_s_cons rfl ?_ | refine sub_s_lst rfl ?_ | refine sub_s_strip rfl ?_)
                           · show _ < _; simp only; omega)
                        | (refine N_again (k + 1, D ++ [p], [], .slice Av (elemsL (L.take i) ++ elemsP D).length cv, Hs) (sub_end ?_ ?_) ⟨by show OSs _ _ (elemsL (L.take i) ++ elemsP (D ++ [p])) _; rw [elemsP_app, elemsP_one, if_pos (by assumption), List.append_nil]; exact hos, hp, hsn, by simp only; omega, Nat.zero_le _, by simp; omega⟩ ?_
                           · repeat' (first | exact sub_lst_nil (sub_nil _) | refine sub_lst rfl ?_ | (refine sub_lst_eq rfl ?_ ?_; · first | rfl | (simp; done) | (congr 1; omega)))
                           · repeat' (first | exact sub_refl _ | exact sub_strip _ _ | refine sub_s_cons rfl ?_ | refine sub_s_lst rfl ?_ | refine sub_s_strip rfl ?_)
                           · show _ < _; simp only; omega)))
              · try (exfalso; first | omega | (simp only [Bool.false_eq_true, reduceCtorEq] at hc3; done) | (refine absurd hc3 ?_; with_reducible assumption) | (refine absurd ?_ hc3; with_reducible assumption))
                all_goals (
                 refine K_skip ?_
                 refine N_then_k ?_
                 refine K_seq ?_
                 refine K_seq ?_
                 refine K_region ?_
                 refine W_move rfl rfl ?_
                 refine W_pcall hp rfl (rtrim_spec p (by omega)) rfl ?_
                 clear hp; intro w hp
                 first
                   | (refine W_sneq_f rfl rfl ?_ rfl ?_; (focus (first | rfl | assumption)))
                   | (refine W_sneq_t rfl rfl ?_ rfl ?_; (focus (first | assumption | decide | exact List.cons_ne_nil _ _)))
                   | (refine W_sneq rfl rfl rfl ?_)
                 refine W_nil ?_
                 refine N_then_k ?_
                 first
                   | refine K_cond_d rfl (fun hc4 => ?_) (fun hc4 => ?_)
                   | refine K_cond_n rfl (fun hc4 => ?_) (fun hc4 => ?_)
                   | refine K_cond_nb rfl (fun hc4 => ?_) (fun hc4 => ?_)
                   | refine K_cond_t rfl (fun hc4 => ?_) (fun hc4 => ?_)
                 · try (exfalso; first | omega | (simp only [Bool.false_eq_true, reduceCtorEq] at hc4; done) | (refine absurd hc4 ?_; with_reducible assumption) | (refine absurd ?_ hc4; with_reducible assumption))
                   all_goals (
                    refine K_region ?_
                    refine W_move rfl rfl ?_
                    refine W_move rfl rfl ?_
                    refine W_pcall hp rfl (rtrim_spec p (by omega)) rfl ?_
                    clear hp; intro w hp
                    refine W_bslice1 hp Tryd.underlying22 sz9 zv9 rfl  rfl  (fun v0 => [v0]) rfl rfl rfl ?_
                    clear hp; intro b42 w hp
                    try simp only [List.append_nil] at hp
                    rw [← List.append_nil Hs] at hp
                    refine W_append_sl (A := [_]) (B := []) _ rfl hp rfl Tryd.underlying22 sz9 pb9 zv9 rfl rfl rfl rfl hos (Rd.own hp (by first | exact List.mem_cons_self | exact .tail _ (.head _) | exact .tail _ (.tail _ (.head _)) | exact .tail _ (.tail _ (.tail _ (.head _))) | exact .tail _ (.tail _ (.tail _ (.tail _ (.head _)))) | exact .tail _ (.tail _ (.tail _ (.tail _ (.tail _ (.head _))))) | exact List.mem_append_right _ (.head _) | exact List.mem_append_right _ (.tail _ (.head _)) | exact List.mem_append_right _ (.tail _ (.tail _ (.head _))) | exact .tail _ (List.mem_append_right _ (.head _)) | exact .tail _ (List.mem_append_right _ (.tail _ (.head _))) | assumption | (repeat (first | exact List.mem_cons_self | apply List.mem_append_right | apply List.mem_cons_of_mem))) (List.prefix_refl _)) ?_ ?_ ?_ ?_ rfl ?_
                    · rfl
                    · first | (simp [Value.oneCell']; done) | (simp [Value.oneCell', strV]; done)
                    · (simp only [maxLen]; omega)
                    · omega
                    clear hp; intro va43 Hs w hos hp
                    replace hos := OSs.app (b := [trim p]) rfl rfl hos
                    obtain ⟨Aa43, ca43, rfl⟩ := hos.form
                    refine W_assign rfl rfl ?_
                    refine W_nil ?_
                    refine N_then_k ?_
                    refine K_region ?_
                    refine W_assign rfl rfl ?_
                    refine W_nil ?_
                    refine N_block_normal ?_
                    refine N_then_k ?_
                    refine K_region ?_
                    refine W_move rfl rfl ?_
                    first
                      | (refine W_add rfl rfl (wr_i64 ?_) rfl ?_; (focus (omega)))
                      | (refine W_add rfl rfl rfl rfl ?_)
                    refine W_assign rfl rfl ?_
                    refine W_nil ?_
                    first
                      | (rw [if_neg (fun e => by have : x.toNat = 44 := by { rw [e]; rfl }; omega)] at hsn
                         refine N_again (k + 1, D, p ++ [x], .slice Av (elemsL (L.take i) ++ elemsP D).length cv, Hs) (sub_end ?_ ?_) ⟨hos, hp, hsn, by simp only; omega, by simp; omega, by simp only; omega⟩ ?_
                         · repeat' (first | exact sub_lst_nil (sub_nil _) | refine sub_lst rfl ?_ | (refine sub_lst_eq rfl ?_ ?_; · first | rfl | (simp; done) | (congr 1; omega)))
                         · repeat' (first | exact sub_refl _ | exact sub_strip _ _ | refine sub_s_cons rfl ?_ | refine sub_s_lst rfl ?_ | refine sub_s_strip rfl ?_)
                         · show _ < _; simp only; omega)
                      | (rw [if_pos (UInt8.toNat_inj.1 (show x.toNat = (44 : UInt8).toNat by show x.toNat = 44; omega))] at hsn
                         first
                           | (refine N_again (k + 1, D ++ [p], [], .slice Aa43 (elemsL (L.take i) ++ elemsP D ++ [trim p]).length ca43, Hs) (sub_end ?_ ?_) ⟨by show OSs _ _ (elemsL (L.take i) ++ elemsP (D ++ [p])) _; rw [elemsP_app, elemsP_one, if_neg (by assumption), ← List.append_assoc]; exact hos, by simpa using hp.drop (List.sublist_cons_self _ _), hsn, by simp only; omega, Nat.zero_le _, by simp; omega⟩ ?_
                              · repeat' (first | exact sub_lst_nil (sub_nil _) | refine sub_lst rfl ?_ | (refine sub_lst_eq rfl ?_ ?_; · first | rfl | (simp; done) | (congr 1; omega)))
                              · repeat' (first | exact sub_refl _ | exact sub_strip _ _ | refine sub_s_cons rfl ?_ | refine sub_s_lst rfl ?_ | refine sub_s_strip rfl ?_)
                              · show _ < _; simp only; omega)
                           | (refine N_again (k + 1, D ++ [p], [], .slice Av (elemsL (L.take i) ++ elemsP D).length cv, Hs) (sub_end ?_ ?_) ⟨by show OSs _ _ (elemsL (L.take i) ++ elemsP (D ++ [p])) _; rw [elemsP_app, elemsP_one, if_pos (by assumption), List.append_nil]; exact hos, hp, hsn, by simp only; omega, Nat.zero_le _, by simp; omega⟩ ?_
                              · repeat' (first | exact sub_lst_nil (sub_nil _) | refine sub_lst rfl ?_ | (refine sub_lst_eq rfl ?_ ?_; · first | rfl | (simp; done) | (congr 1; omega)))
                              · repeat' (first | exact sub_refl _ | exact sub_strip _ _ | refine sub_s_cons rfl ?_ | refine sub_s_lst rfl ?_ | refine sub_s_strip rfl ?_)
                              · show _ < _; simp only; omega)))
                 · try (exfalso; first | omega | (simp only [Bool.false_eq_true, reduceCtorEq] at hc4; done) | (refine absurd hc4 ?_; with_reducible assumption) | (refine absurd ?_ hc4; with_reducible assumption))
                   all_goals (
                    refine K_skip ?_
                    refine N_then_k ?_
                    refine K_region ?_
                    refine W_assign rfl rfl ?_
                    refine W_nil ?_
                    refine N_block_normal ?_
                    refine N_then_k ?_
                    refine K_region ?_
                    refine W_move rfl rfl ?_
                    first
                      | (refine W_add rfl rfl (wr_i64 ?_) rfl ?_; (focus (omega)))
                      | (refine W_add rfl rfl rfl rfl ?_)
                    refine W_assign rfl rfl ?_
                    refine W_nil ?_
                    first
                      | (rw [if_neg (fun e => by have : x.toNat = 44 := by { rw [e]; rfl }; omega)] at hsn
                         refine N_again (k + 1, D, p ++ [x], .slice Av (elemsL (L.take i) ++ elemsP D).length cv, Hs) (sub_end ?_ ?_) ⟨hos, hp, hsn, by simp only; omega, by simp; omega, by simp only; omega⟩ ?_
                         · repeat' (first | exact sub_lst_nil (sub_nil _) | refine sub_lst rfl ?_ | (refine sub_lst_eq rfl ?_ ?_; · first | rfl | (simp; done) | (congr 1; omega)))
                         · repeat' (first | exact sub_refl _ | exact sub_strip _ _ | refine sub_s_cons rfl ?_ | refine sub_s_lst rfl ?_ | refine sub_s_strip rfl ?_)
                         · show _ < _; simp only; omega)
                      | (rw [if_pos (UInt8.toNat_inj.1 (show x.toNat = (44 : UInt8).toNat by show x.toNat = 44; omega))] at hsn
                         first
                           | (refine N_again (k + 1, D ++ [p], [], .slice Aa43 (elemsL (L.take i) ++ elemsP D ++ [trim p]).length ca43, Hs) (sub_end ?_ ?_) ⟨by show OSs _ _ (elemsL (L.take i) ++ elemsP (D ++ [p])) _; rw [elemsP_app, elemsP_one, if_neg (by assumption), ← List.append_assoc]; exact hos, by simpa using hp.drop (List.sublist_cons_self _ _), hsn, by simp only; omega, Nat.zero_le _, by simp; omega⟩ ?_
                              · repeat' (first | exact sub_lst_nil (sub_nil _) | refine sub_lst rfl ?_ | (refine sub_lst_eq rfl ?_ ?_; · first | rfl | (simp; done) | (congr 1; omega)))
                              · repeat' (first | exact sub_refl _ | exact sub_strip _ _ | refine sub_s_cons rfl ?_ | refine sub_s_lst rfl ?_ | refine sub_s_strip rfl ?_)
                              · show _ < _; simp only; omega)
                           | (refine N_again (k + 1, D ++ [p], [], .slice Av (elemsL (L.take i) ++ elemsP D).length cv, Hs) (sub_end ?_ ?_) ⟨by show OSs _ _ (elemsL (L.take i) ++ elemsP (D ++ [p])) _; rw [elemsP_app, elemsP_one, if_pos (by assumption), List.append_nil]; exact hos, hp, hsn, by simp only; omega, Nat.zero_le _, by simp; omega⟩ ?_
                              · repeat' (first | exact sub_lst_nil (sub_nil _) | refine sub_lst rfl ?_ | (refine sub_lst_eq rfl ?_ ?_; · first | rfl | (simp; done) | (congr 1; omega)))
                              · repeat' (first | exact sub_refl _ | exact sub_strip _ _ | refine sub_s_cons rfl ?_ | refine sub_s_lst rfl ?_ | refine sub_s_strip rfl ?_)
                              · show _ < _; simp only; omega)))))
           · try (exfalso; first | omega | (simp only [Bool.false_eq_true, reduceCtorEq] at hc2; done) | (refine absurd hc2 ?_; with_reducible assumption) | (refine absurd ?_ hc2; with_reducible assumption))
             all_goals (
              refine K_exit ?_
              refine N_then_exit ?_
              refine N_then_exit ?_
              refine N_block_exit ?_
              refine N_block_normal ?_
              refine N_then_k ?_
              refine K_region ?_
              refine W_move rfl rfl ?_
              first
                | (refine W_add rfl rfl (wr_i64 ?_) rfl ?_; (focus (omega)))
                | (refine W_add rfl rfl rfl rfl ?_)
              refine W_assign rfl rfl ?_
              refine W_nil ?_
              obtain rfl : k = (v ++ [44]).length := by omega
              rw [List.take_length] at hsp
              have hD := splitB_comma hsp
              refine N_again (i + 1, _, Hs) (sub_end ?_ ?_) ⟨by show OSs _ _ (elemsL (L.take (i + 1))) _; rw [elemsL_take hv]; unfold elemsV; rw [← hD]; exact hos, hp, hlt⟩ ?_
              · repeat' (first | exact sub_lst_nil (sub_nil _) | refine sub_lst rfl ?_ | (refine sub_lst_eq rfl ?_ ?_; · first | rfl | (simp; done) | (congr 1; omega)))
              · repeat' (first | exact sub_refl _ | exact sub_strip _ _ | refine sub_s_cons rfl ?_ | refine sub_s_lst rfl ?_ | refine sub_s_strip rfl ?_)
              · show _ < _; simp only; omega)))
     · try (exfalso; first | omega | (simp only [Bool.false_eq_true, reduceCtorEq] at hc1; done) | (refine absurd hc1 ?_; with_reducible assumption) | (refine absurd ?_ hc1; with_reducible assumption))
       all_goals (
        refine K_exit ?_
        refine N_then_exit ?_
        refine N_then_exit ?_
        refine N_block_exit ?_
        refine N_then_k ?_
        refine K_seq ?_
        refine K_region ?_
        refine W_move rfl rfl ?_
        refine W_assign rfl rfl ?_
        refine W_nil ?_
        refine N_then_k ?_
        refine K_ret ?_
        refine N_done1 (.inr rfl) rfl rfl ?_
        rw [List.take_of_length_le hge] at hos
        exact ⟨_, rfl, Hs, hp, by first | exact hos | (rw [List.take_of_length_le hge]; exact hos)⟩))

end Go.Proofs.YtjmfjdmpbkdceaaDoor
