/-
  Package tree and its references, walked: what is right.
-/
import Derived.Test.YticinfoljhlnbaaGreatDoorTreF
namespace Go.Proofs.YticinfoljhlnbaaGreatDoor
open Go.Sx Go.RowKit
set_option linter.unusedVariables false
set_option linter.unusedSimpArgs false
set_option maxRecDepth 100000

set_option maxHeartbeats 1000000 in
theorem fewt_spec (w0 : World) (X : List FS) (A : Option Addr) (c : Nat) (hrX : Rd w0 (.slice A X.length c) X.length (filesC X)) (hok : ∀ x ∈ X, FSok w0 x) (hn : X.length ≤ 9223372036854775807) (hm : ∀ x ∈ X, x.f.path.length ≤ 9223372036854775807) : PureAt Tryz.prog 9 [.slice A X.length c] (.bool (fewT (filesF X))) w0 := by
  refine PureAt.intro go9 Tryz.func9 rfl rfl fun hp => ?_
  refine (fun (hk : ∀ w, Hp w0 [] [] w → K _ _ _ _ _ w) => hk w0 hp) fun w hp => ?_
  refine K_seq ?_
  refine K_region ?_
  refine W_assign rfl rfl ?_
  refine W_nil ?_
  refine N_then_k ?_
  refine K_seq ?_
  refine K_seq ?_
  refine K_region ?_
  refine W_assign rfl rfl ?_
  refine W_nil ?_
  refine N_then_k ?_
  refine K_block ?_
  refine K_loop (σ := Nat) [2, 3, 4, 5, 6, 7, 8, 9, 10, 11, 12, 13, 14, 15, 16, 17, 18, 19, 20, 21, 22, 23, 24, 25, 26, 27, 28, 29, 30, 31, 32, 33, 34]
      (fun k => [(3, .int .i64 k)])
      (fun k w => Hp w0 [] [] w ∧ k ≤ X.length ∧ ((filesF X).take k).all fewF = true)
      (fun k => X.length - k) (0) ?_ ?_ ?_
  · repeat' (first | exact sub_lst_nil (sub_nil _) | refine sub_lst rfl ?_ | (refine sub_lst_eq rfl ?_ ?_; · first | rfl | (simp; done) | (congr 1; omega)))
  · exact ⟨hp, Nat.zero_le _, rfl⟩
  · intro k w hJ
    clear hp
    obtain ⟨hp, hle, hinv⟩ := hJ
    rcases Nat.lt_or_ge k X.length with hlt | hge
    all_goals (
 refine K_seq ?_
 refine K_seq ?_
 refine K_region ?_
 refine W_move rfl rfl ?_
 refine W_move rfl rfl ?_
 refine W_len_sl Tryz.underlying23 rfl rfl ?_
 first
   | (refine W_lss_t rfl rfl ?_ rfl ?_; (focus (omega)))
   | (refine W_lss_f rfl rfl ?_ rfl ?_; (focus (omega)))
   | (refine W_lss rfl rfl rfl ?_)
 refine W_nil ?_
 refine N_then_k ?_
 first
   | refine K_cond_d rfl (fun hc1 => ?_) (fun hc1 => ?_)
   | refine K_cond_n rfl (fun hc1 => ?_) (fun hc1 => ?_)
   | refine K_cond_nb rfl (fun hc1 => ?_) (fun hc1 => ?_)
   | refine K_cond_t rfl (fun hc1 => ?_) (fun hc1 => ?_)
 · try (exfalso; first | omega | (simp only [Bool.false_eq_true, reduceCtorEq] at hc1; done) | (refine absurd hc1 ?_; with_reducible assumption) | (refine absurd ?_ hc1; with_reducible assumption))
   all_goals (
 refine K_skip ?_
 refine N_then_k ?_
 refine K_seq ?_
 refine K_block ?_
 refine K_seq ?_
 obtain ⟨x, hx⟩ : ∃ x, X[k]? = some x := ⟨_, List.getElem?_eq_getElem hlt⟩
 have hxf := filesF_at hx
 have hxk := hok x (List.mem_of_getElem? hx)
 obtain ⟨bb, oo, rfl⟩ := file_some hrX hx
 have hxm := hm x (List.mem_of_getElem? hx)
 cases hfp : fewP x.f.path
 all_goals (
  refine K_region ?_
  refine W_move rfl rfl ?_
  refine W_move rfl rfl ?_
  refine W_indexAddr_sl Tryz.underlying23 sz39 rfl rfl ?_ ?_ rfl ?_
  (focus (omega))
  (focus (first | omega | (simp; done) | (simp; omega)))
  refine W_fieldAddr Tryz.underlying39 rfl sz35 rfl rfl ?_
  refine W_load_s Tryz.underlying35 rfl rfl (by exact hp.cell_old0 (file_cell hrX hx (by rfl))) rfl ?_
  refine W_acall hp rfl (((few_spec w x.f.path x.A x.c (hxk.1.keep hp) hxm).eq (congrArg Value.bool hfp))) rfl ?_
  clear hp; intro w hp
  first
    | (refine W_not_t rfl rfl ?_)
    | (refine W_not_f rfl rfl ?_)
    | (refine W_not rfl rfl ?_)
  refine W_move rfl rfl ?_
  first
    | refine W_guard_lit_t rfl ?_
    | refine W_guard_lit_f rfl ?_
    | refine W_guard_lit_u rfl ?_
    | refine W_guard_split_d rfl rfl rfl (fun hg2 => ?_) (fun hg2 => ?_)
    | refine W_guard_split_n rfl rfl rfl (fun hg2 => ?_) (fun hg2 => ?_)
    | refine W_guard_split_nb rfl rfl rfl (fun hg2 => ?_) (fun hg2 => ?_)
    | refine W_guard_split rfl rfl rfl (fun hg2 => ?_) (fun hg2 => ?_)
  all_goals try (exfalso; first | omega | (simp only [Bool.false_eq_true, reduceCtorEq] at hg2; done) | (refine absurd hg2 ?_; with_reducible assumption) | (refine absurd ?_ hg2; with_reducible assumption))
  all_goals (
   first
     | (iterate 7 refine W_guard_no rfl rfl rfl ?_)
     | (iterate 7 refine W_guard_un rfl rfl ?_)
     | (refine W_guard_yes rfl ?_
        refine W_move rfl rfl ?_
        refine W_guard_yes rfl ?_
        refine W_move rfl rfl ?_
        refine W_guard_yes rfl ?_
        refine W_indexAddr_sl Tryz.underlying23 sz39 rfl rfl ?_ ?_ rfl ?_
        (focus (omega))
        (focus (first | omega | (simp; done) | (simp; omega)))
        refine W_guard_yes rfl ?_
        refine W_fieldAddr Tryz.underlying39 rfl sz9 rfl rfl ?_
        refine W_guard_yes rfl ?_
        refine W_load_s Tryz.underlying9 rfl rfl (by exact hp.cell_old0 (file_cell hrX hx (by rfl))) rfl ?_
        refine W_guard_yes rfl ?_
        refine W_len_s Tryz.underlying9 rfl rfl ?_
        refine W_guard_yes rfl ?_
        first
          | (refine W_gtr_t rfl rfl ?_ rfl ?_; (focus (omega)))
          | (refine W_gtr_f rfl rfl ?_ rfl ?_; (focus (omega)))
          | (refine W_gtr rfl rfl rfl ?_))
   first
     | (refine W_pick_t rfl rfl rfl ?_)
     | (refine W_pick_f rfl rfl rfl ?_)
     | (refine W_pick_b rfl rfl rfl rfl ?_)
   refine W_move rfl rfl ?_
   first
     | refine W_guard_lit_t rfl ?_
     | refine W_guard_lit_f rfl ?_
     | refine W_guard_lit_u rfl ?_
     | refine W_guard_split_d rfl rfl rfl (fun hg3 => ?_) (fun hg3 => ?_)
     | refine W_guard_split_n rfl rfl rfl (fun hg3 => ?_) (fun hg3 => ?_)
     | refine W_guard_split_nb rfl rfl rfl (fun hg3 => ?_) (fun hg3 => ?_)
     | refine W_guard_split rfl rfl rfl (fun hg3 => ?_) (fun hg3 => ?_)
   all_goals try (exfalso; first | omega | (simp only [Bool.false_eq_true, reduceCtorEq] at hg3; done) | (refine absurd hg3 ?_; with_reducible assumption) | (refine absurd ?_ hg3; with_reducible assumption))
   all_goals (
    first
      | (iterate 7 refine W_guard_no rfl rfl rfl ?_)
      | (iterate 7 refine W_guard_un rfl rfl ?_)
      | (refine W_guard_yes rfl ?_
         refine W_move rfl rfl ?_
         refine W_guard_yes rfl ?_
         refine W_move rfl rfl ?_
         refine W_guard_yes rfl ?_
         refine W_indexAddr_sl Tryz.underlying23 sz39 rfl rfl ?_ ?_ rfl ?_
         (focus (omega))
         (focus (first | omega | (simp; done) | (simp; omega)))
         refine W_guard_yes rfl ?_
         refine W_fieldAddr Tryz.underlying39 rfl sz37 rfl rfl ?_
         refine W_guard_yes rfl ?_
         refine W_load_s Tryz.underlying37 rfl rfl (by exact hp.cell_old0 (file_cell hrX hx (by rfl))) rfl ?_
         refine W_guard_yes rfl ?_
         refine W_len_sl Tryz.underlying37 rfl rfl ?_
         refine W_guard_yes rfl ?_
         first
           | (refine W_gtr_t rfl rfl ?_ rfl ?_; (focus (omega)))
           | (refine W_gtr_f rfl rfl ?_ rfl ?_; (focus (omega)))
           | (refine W_gtr rfl rfl rfl ?_))
    first
      | (refine W_pick_t rfl rfl rfl ?_)
      | (refine W_pick_f rfl rfl rfl ?_)
      | (refine W_pick_b rfl rfl rfl rfl ?_)
    refine W_nil ?_
    refine N_then_k ?_
    first
      | refine K_cond_d rfl (fun hc4 => ?_) (fun hc4 => ?_)
      | refine K_cond_n rfl (fun hc4 => ?_) (fun hc4 => ?_)
      | refine K_cond_nb rfl (fun hc4 => ?_) (fun hc4 => ?_)
      | refine K_cond_t rfl (fun hc4 => ?_) (fun hc4 => ?_)
    · try (exfalso; first | omega | (simp only [Bool.false_eq_true, reduceCtorEq] at hc4; done) | (refine absurd hc4 ?_; with_reducible assumption) | (refine absurd ?_ hc4; with_reducible assumption))
      all_goals (
 refine K_seq ?_
 refine K_region ?_
 refine W_assign rfl rfl ?_
 refine W_nil ?_
 refine N_then_k ?_
 refine K_ret ?_
 refine N_block_ret ?_
 refine N_then_ret ?_
 refine N_then_ret ?_
 refine N_block_ret ?_
 refine N_then_ret ?_
 refine N_done1 (.inr rfl) rfl rfl ?_
 refine ⟨_, rfl, congrArg Value.bool ?_, hp.nil⟩
 unfold fewT
 first
   | (rw [allF_no hxf (by unfold fewF; rw [hfp]; rfl)]; rfl)
   | (rw [allF_no hxf (by unfold fewF; rw [hfp, decide_eq_false (show ¬ x.f.typ.length ≤ 100 by omega)]; rfl)]; rfl)
   | (rw [allF_no hxf (by unfold fewF; rw [hfp, decide_eq_true (show x.f.typ.length ≤ 100 by omega), decide_eq_false (show ¬ x.f.body.length ≤ 1000 by omega)]; rfl)]; rfl)
   | (rw [List.take_of_length_le (by rw [filesF_length]; exact hge)] at hinv; rw [hinv, Bool.true_and, filesF_length]; refine decide_eq_decide.2 ?_; omega))
    · try (exfalso; first | omega | (simp only [Bool.false_eq_true, reduceCtorEq] at hc4; done) | (refine absurd hc4 ?_; with_reducible assumption) | (refine absurd ?_ hc4; with_reducible assumption))
      all_goals (
 refine K_skip ?_
 refine N_block_normal ?_
 refine N_then_k ?_
 refine K_region ?_
 refine W_move rfl rfl ?_
 first
   | (refine W_add rfl rfl (wr_i64 ?_) rfl ?_; (focus (omega)))
   | (refine W_add rfl rfl rfl rfl ?_)
 refine W_assign rfl rfl ?_
 refine W_nil ?_
 refine N_again (k + 1) (sub_end ?_ ?_) ?_ ?_
 · repeat' (first | exact sub_lst_nil (sub_nil _) | refine sub_lst rfl ?_ | (refine sub_lst_eq rfl ?_ ?_; · first | rfl | (simp; done) | (congr 1; omega)))
 · repeat' (first | exact sub_refl _ | exact sub_strip _ _ | refine sub_s_cons rfl ?_ | refine sub_s_lst rfl ?_ | refine sub_s_strip rfl ?_)
 · exact ⟨hp, hlt, allF_next hxf (by unfold fewF; rw [hfp, decide_eq_true (show x.f.typ.length ≤ 100 by omega), decide_eq_true (show x.f.body.length ≤ 1000 by omega)]; rfl) hinv⟩
 · omega)))))
 · try (exfalso; first | omega | (simp only [Bool.false_eq_true, reduceCtorEq] at hc1; done) | (refine absurd hc1 ?_; with_reducible assumption) | (refine absurd ?_ hc1; with_reducible assumption))
   all_goals (
 refine K_exit ?_
 refine N_then_exit ?_
 refine N_then_exit ?_
 refine N_block_exit ?_
 refine N_then_k ?_
 refine K_seq ?_
 refine K_region ?_
 refine W_move rfl rfl ?_
 refine W_len_sl Tryz.underlying23 rfl rfl ?_
 first
   | (refine W_leq_t rfl rfl ?_ rfl ?_; (focus (omega)))
   | (refine W_leq_f rfl rfl ?_ rfl ?_; (focus (omega)))
   | (refine W_leq rfl rfl rfl ?_)
 refine W_assign rfl rfl ?_
 refine W_nil ?_
 refine N_then_k ?_
 refine K_ret ?_
 refine N_done1 (.inr rfl) rfl rfl ?_
 refine ⟨_, rfl, congrArg Value.bool ?_, hp.nil⟩
 unfold fewT
 first
   | (rw [allF_no hxf (by unfold fewF; rw [hfp]; rfl)]; rfl)
   | (rw [allF_no hxf (by unfold fewF; rw [hfp, decide_eq_false (show ¬ x.f.typ.length ≤ 100 by omega)]; rfl)]; rfl)
   | (rw [allF_no hxf (by unfold fewF; rw [hfp, decide_eq_true (show x.f.typ.length ≤ 100 by omega), decide_eq_false (show ¬ x.f.body.length ≤ 1000 by omega)]; rfl)]; rfl)
   | (rw [List.take_of_length_le (by rw [filesF_length]; exact hge)] at hinv; rw [hinv, Bool.true_and, filesF_length]; refine decide_eq_decide.2 ?_; omega)))

theorem dt1 {f : FileV} (h : f.dir = true) (h2 : f.typ ≠ []) : detailB f = false := by unfold detailB; rw [if_pos h, decide_eq_false h2]; rfl
theorem dt2 {f : FileV} (h : f.dir = true) (h2 : 0 < f.body.length) : detailB f = false := by unfold detailB; rw [if_pos h, decide_eq_false (show ¬ f.body.length = 0 by omega)]; simp
theorem dt3 {f : FileV} (h : f.dir = true) (h2 : f.typ = []) (h3 : f.body.length = 0) : detailB f = true := by unfold detailB; rw [if_pos h, decide_eq_true h2, decide_eq_true h3]; rfl
theorem df1 {f : FileV} (h : f.dir = false) (h2 : f.typ = []) : detailB f = false := by unfold detailB; rw [if_neg (by rw [h]; simp), decide_eq_false (by simp [h2])]; rfl
theorem df2 {f : FileV} (h : f.dir = false) (h2 : f.typ.all fieldB = false) : detailB f = false := by unfold detailB; rw [if_neg (by rw [h]; simp), h2]; simp
theorem df3 {f : FileV} (h : f.dir = false) (h2 : ¬ trim f.typ = f.typ) : detailB f = false := by unfold detailB; rw [if_neg (by rw [h]; simp), decide_eq_false h2]; simp
theorem df4 {f : FileV} (h : f.dir = false) (h2 : f.typ ≠ []) (h3 : f.typ.all fieldB = true) (h4 : trim f.typ = f.typ) : detailB f = true := by unfold detailB; rw [if_neg (by rw [h]; simp), decide_eq_true h2, h3, decide_eq_true h4]; rfl
theorem pr1 {i k : Nat} {f g : FileV} (h : k < i) (h2 : g.path = f.path) : pairB i f k g = true := by unfold pairB; rw [decide_eq_true h, decide_eq_true h2]; rfl
theorem pr2 {i k : Nat} {f g : FileV} (h : g.dir = false) (h2 : aboveB g.path f.path = true) : pairB i f k g = true := by unfold pairB; rw [h, h2]; simp
theorem pr3 {i k : Nat} {f g : FileV} (h : ¬ (k < i ∧ g.path = f.path)) (h2 : ¬ (g.dir = false ∧ aboveB g.path f.path = true)) : pairB i f k g = false := by
  unfold pairB
  rw [Bool.or_eq_false_iff]
  constructor
  · rw [Bool.and_eq_false_iff]
    by_cases h1 : k < i
    · exact .inr (decide_eq_false (fun e => h ⟨h1, e⟩))
    · exact .inl (decide_eq_false h1)
  · rw [Bool.and_eq_false_iff]
    cases e : g.dir
    · right
      cases e2 : aboveB g.path f.path
      · rfl
      · exact absurd ⟨e, e2⟩ h2
    · exact .inl rfl

set_option maxHeartbeats 4000000 in
theorem rcheck_spec (w0 : World) (X : List FS) (A : Option Addr) (c : Nat) (hrX : Rd w0 (.slice A X.length c) X.length (filesC X)) (hok : ∀ x ∈ X, FSok w0 x) (hn : X.length ≤ 100) (hf : fewT (filesF X) = true) : PureAt Tryz.prog 11 [.slice A X.length c] (.int .i64 (checkL (filesF X))) w0 := by
  refine PureAt.intro go11 Tryz.func11 rfl rfl fun hp => ?_
  refine (fun (hk : ∀ w, Hp w0 [] [] w → K _ _ _ _ _ w) => hk w0 hp) fun w hp => ?_
  refine K_seq ?_
  refine K_region ?_
  refine W_assign rfl rfl ?_
  refine W_nil ?_
  refine N_then_k ?_
  refine K_seq ?_
  refine K_seq ?_
  refine K_region ?_
  refine W_assign rfl rfl ?_
  refine W_nil ?_
  refine N_then_k ?_
  refine K_block ?_
  refine K_loop (σ := Nat) [2, 3, 4, 5, 6, 7, 8, 9, 10, 11, 12, 13, 14, 15, 16, 17, 18, 19, 20, 21, 22, 23, 24, 25, 26, 27, 28, 29, 30, 31, 32, 33, 34, 35, 36, 37, 38, 39, 40, 41, 42, 43, 44, 45, 46, 47, 48, 49, 50, 51, 52, 53, 54, 55, 56, 57, 58, 59, 60, 61, 62, 63, 64, 65, 66, 67, 68, 69, 70, 71, 72, 73, 74, 75, 76, 77, 78, 79, 80, 81, 82, 83, 84, 85, 86, 87, 88, 89, 90, 91, 92, 93, 94, 95, 96, 97, 98, 99, 100, 101, 102]
      (fun i => [(3, .int .i64 i)])
      (fun i w => Hp w0 [] [] w ∧ i ≤ X.length ∧ ∀ j g, j < i → (filesF X)[j]? = some g → rightF (filesF X) j g = true)
      (fun i => X.length - i) (0) ?_ ?_ ?_
  · repeat' (first | exact sub_lst_nil (sub_nil _) | refine sub_lst rfl ?_ | (refine sub_lst_eq rfl ?_ ?_; · first | rfl | (simp; done) | (congr 1; omega)))
  · exact ⟨hp, Nat.zero_le _, fun j g hj => absurd hj (by omega)⟩
  · intro i w hJ
    clear hp
    obtain ⟨hp, hle, hinv⟩ := hJ
    rcases Nat.lt_or_ge i X.length with hlt | hge
    all_goals (
 refine K_seq ?_
 refine K_seq ?_
 refine K_region ?_
 refine W_move rfl rfl ?_
 refine W_move rfl rfl ?_
 refine W_len_sl Tryz.underlying23 rfl rfl ?_
 first
   | (refine W_lss_t rfl rfl ?_ rfl ?_; (focus (omega)))
   | (refine W_lss_f rfl rfl ?_ rfl ?_; (focus (omega)))
   | (refine W_lss rfl rfl rfl ?_)
 refine W_nil ?_
 refine N_then_k ?_
 first
   | refine K_cond_d rfl (fun hc1 => ?_) (fun hc1 => ?_)
   | refine K_cond_n rfl (fun hc1 => ?_) (fun hc1 => ?_)
   | refine K_cond_nb rfl (fun hc1 => ?_) (fun hc1 => ?_)
   | refine K_cond_t rfl (fun hc1 => ?_) (fun hc1 => ?_)
 · try (exfalso; first | omega | (simp only [Bool.false_eq_true, reduceCtorEq] at hc1; done) | (refine absurd hc1 ?_; with_reducible assumption) | (refine absurd ?_ hc1; with_reducible assumption))
   all_goals (
 refine K_skip ?_
 refine N_then_k ?_
 refine K_seq ?_
 refine K_block ?_
 refine K_seq ?_
 obtain ⟨x, hx⟩ : ∃ x, X[i]? = some x := ⟨_, List.getElem?_eq_getElem hlt⟩
 have hxf := filesF_at hx
 have hxk := hok x (List.mem_of_getElem? hx)
 obtain ⟨bb, oo, rfl⟩ := file_some hrX hx
 refine K_region ?_
 refine W_move rfl rfl ?_
 refine W_move rfl rfl ?_
 refine W_indexAddr_sl Tryz.underlying23 sz39 rfl rfl ?_ ?_ rfl ?_
 (focus (omega))
 (focus (first | omega | (simp; done) | (simp; omega)))
 refine W_load_a (cs := x.cells) Tryz.underlying39 rfl sz39 rfl rfl (fun j u hj => hp.cell_old0 (file_cell hrX hx hj)) rfl ?_
 refine W_alloc hp zv39 rfl rfl ?_
 clear hp; intro b4 w hp
 refine W_storeF (A := []) (cs := x.cells) hp rfl sz39 rfl rfl rfl rfl ?_ ?_ (cells_one x) rfl ?_
 · exact Nat.le_refl _
 · exact .inl (Nat.zero_le _)
 clear hp; intro w hp
 simp only [List.nil_append, List.cons_append] at hp
 refine W_nil ?_
 refine N_then_k ?_
 refine K_seq ?_
 refine K_seq ?_
 replace hp : Hp w0 [] [(b4, .cells x.cells.toArray 39)] w := hp
 obtain ⟨hq1, hq2, hq3, hq4⟩ := few_right hf hxf
 refine K_region ?_
 refine W_fieldAddr Tryz.underlying39 rfl sz35 rfl rfl ?_
 refine W_load_s Tryz.underlying35 rfl rfl (by first | exact hp.cellF (by first | assumption | (repeat (first | exact List.mem_cons_self | apply List.mem_append_right | apply List.mem_cons_of_mem))) rfl | exact hp.cell_old0 ‹_› | (refine hp.cell_old0 ?_; assumption) | (apply hp.cellF (by assumption); rfl)) rfl ?_
 refine W_len_sl Tryz.underlying35 rfl rfl ?_
 first
   | (refine W_eql_t rfl rfl ?_ rfl ?_; (focus (omega)))
   | (refine W_eql_f rfl rfl ?_ rfl ?_; (focus (omega)))
   | (refine W_eql rfl rfl rfl ?_)
 refine W_move rfl rfl ?_
 first
   | refine W_guard_lit_t rfl ?_
   | refine W_guard_lit_f rfl ?_
   | refine W_guard_lit_u rfl ?_
   | refine W_guard_split_d rfl rfl rfl (fun hg2 => ?_) (fun hg2 => ?_)
   | refine W_guard_split_n rfl rfl rfl (fun hg2 => ?_) (fun hg2 => ?_)
   | refine W_guard_split_nb rfl rfl rfl (fun hg2 => ?_) (fun hg2 => ?_)
   | refine W_guard_split rfl rfl rfl (fun hg2 => ?_) (fun hg2 => ?_)
 all_goals try (exfalso; first | omega | (simp only [Bool.false_eq_true, reduceCtorEq] at hg2; done) | (refine absurd hg2 ?_; with_reducible assumption) | (refine absurd ?_ hg2; with_reducible assumption))
 all_goals (
  first
    | (iterate 4 refine W_guard_no rfl rfl rfl ?_)
    | (iterate 4 refine W_guard_un rfl rfl ?_)
    | (refine W_guard_yes rfl ?_
       refine W_fieldAddr Tryz.underlying39 rfl sz35 rfl rfl ?_
       refine W_guard_yes rfl ?_
       refine W_load_s Tryz.underlying35 rfl rfl (by first | exact hp.cellF (by first | assumption | (repeat (first | exact List.mem_cons_self | apply List.mem_append_right | apply List.mem_cons_of_mem))) rfl | exact hp.cell_old0 ‹_› | (refine hp.cell_old0 ?_; assumption) | (apply hp.cellF (by assumption); rfl)) rfl ?_
       refine W_guard_yes rfl ?_
       refine W_acall hp rfl ((rallplain_spec w x.f.path x.A x.c (hxk.1.keep hp) (by omega) hq2)) rfl ?_
       clear hp; intro w hp
       refine W_guard_yes rfl ?_
       first
         | (refine W_not_t rfl rfl ?_)
         | (refine W_not_f rfl rfl ?_)
         | (refine W_not rfl rfl ?_))
  first
    | (refine W_pick_t rfl rfl rfl ?_)
    | (refine W_pick_f rfl rfl rfl ?_)
    | (refine W_pick_b rfl rfl rfl rfl ?_)
  refine W_nil ?_
  refine N_then_k ?_
  first
    | refine K_cond_d rfl (fun hc3 => ?_) (fun hc3 => ?_)
    | refine K_cond_n rfl (fun hc3 => ?_) (fun hc3 => ?_)
    | refine K_cond_nb rfl (fun hc3 => ?_) (fun hc3 => ?_)
    | refine K_cond_t rfl (fun hc3 => ?_) (fun hc3 => ?_)
  · try (exfalso; first | omega | (simp only [Bool.false_eq_true, reduceCtorEq] at hc3; done) | (refine absurd hc3 ?_; with_reducible assumption) | (refine absurd ?_ hc3; with_reducible assumption))
    all_goals (
 refine K_seq ?_
 refine K_region ?_
 refine W_move rfl rfl ?_
 refine W_assign rfl rfl ?_
 refine W_nil ?_
 refine N_then_k ?_
 refine K_ret ?_
 refine N_then_ret ?_
 refine N_block_ret ?_
 refine N_then_ret ?_
 refine N_then_ret ?_
 refine N_block_ret ?_
 refine N_then_ret ?_
 refine N_done1 (.inr rfl) rfl rfl ?_
 refine ⟨_, rfl, congrArg (Value.int .i64) ?_, hp.nil⟩
 first
   | exact (check_some hinv hxf (rightF_nil (zero_len (by assumption)))).symm
   | exact (check_some hinv hxf (rightF_plain (by assumption))).symm
   | exact (check_some hinv hxf (rightF_clash hyf (pr1 (by omega) (by assumption)))).symm
   | exact (check_some hinv hxf (rightF_clash hyf (pr2 (by assumption) (by assumption)))).symm
   | exact (check_some hinv hxf (rightF_detail (dt1 (by assumption) (by assumption)))).symm
   | exact (check_some hinv hxf (rightF_detail (dt2 (by assumption) (by omega)))).symm
   | exact (check_some hinv hxf (rightF_detail (df1 (by assumption) (by assumption)))).symm
   | exact (check_some hinv hxf (rightF_detail (df2 (by assumption) (by assumption)))).symm
   | exact (check_some hinv hxf (rightF_detail (df3 (by assumption) (by assumption)))).symm
   | (exfalso; have h1 : x.f.dir = false := (by assumption); have h2 : x.f.dir = true := (by assumption); rw [h1] at h2; cases h2)
   | exact (check_none (fun j g hg => hinv j g (by have := (List.getElem?_eq_some_iff.1 hg).1; rw [filesF_length] at this; omega) hg)).symm)
  · try (exfalso; first | omega | (simp only [Bool.false_eq_true, reduceCtorEq] at hc3; done) | (refine absurd hc3 ?_; with_reducible assumption) | (refine absurd ?_ hc3; with_reducible assumption))
    all_goals (
 refine K_skip ?_
 refine N_then_k ?_
 refine K_seq ?_
 refine K_seq ?_
 refine K_region ?_
 refine W_assign rfl rfl ?_
 refine W_nil ?_
 refine N_then_k ?_
 refine K_block ?_
 refine K_loop (σ := Nat) [2, 5, 27, 28, 29, 30, 31, 32, 33, 34, 35, 36, 37, 38, 39, 40, 41, 42, 43, 44, 45, 46, 47, 48, 49, 50, 51, 52, 53, 54, 55, 56, 57, 58, 59, 60, 61, 62, 63, 64]
     (fun k => [(5, .int .i64 k)])
     (fun k w => Hp w0 [] [(b4, .cells x.cells.toArray 39)] w ∧ k ≤ X.length ∧ ∀ q g, q < k → (filesF X)[q]? = some g → pairB i x.f q g = false)
     (fun k => X.length - k) (0) ?_ ?_ ?_
 · repeat' (first | exact sub_lst_nil (sub_nil _) | refine sub_lst rfl ?_ | (refine sub_lst_eq rfl ?_ ?_; · first | rfl | (simp; done) | (congr 1; omega)))
 · exact ⟨hp, Nat.zero_le _, fun q g hq => absurd hq (by omega)⟩
 · intro k w hJ
   clear hp
   obtain ⟨hp, hlek, hpair⟩ := hJ
   rcases Nat.lt_or_ge k X.length with hltk | hgek
   all_goals (
 refine K_seq ?_
 refine K_seq ?_
 refine K_region ?_
 refine W_move rfl rfl ?_
 refine W_move rfl rfl ?_
 refine W_len_sl Tryz.underlying23 rfl rfl ?_
 first
   | (refine W_lss_t rfl rfl ?_ rfl ?_; (focus (omega)))
   | (refine W_lss_f rfl rfl ?_ rfl ?_; (focus (omega)))
   | (refine W_lss rfl rfl rfl ?_)
 refine W_nil ?_
 refine N_then_k ?_
 first
   | refine K_cond_d rfl (fun hc4 => ?_) (fun hc4 => ?_)
   | refine K_cond_n rfl (fun hc4 => ?_) (fun hc4 => ?_)
   | refine K_cond_nb rfl (fun hc4 => ?_) (fun hc4 => ?_)
   | refine K_cond_t rfl (fun hc4 => ?_) (fun hc4 => ?_)
 · try (exfalso; first | omega | (simp only [Bool.false_eq_true, reduceCtorEq] at hc4; done) | (refine absurd hc4 ?_; with_reducible assumption) | (refine absurd ?_ hc4; with_reducible assumption))
   all_goals (
 refine K_skip ?_
 refine N_then_k ?_
 refine K_seq ?_
 refine K_block ?_
 refine K_seq ?_
 obtain ⟨y, hy⟩ : ∃ x, X[k]? = some x := ⟨_, List.getElem?_eq_getElem hltk⟩
 have hyf := filesF_at hy
 have hyk := hok y (List.mem_of_getElem? hy)
 refine K_quiet hm hp (by kernel_rfl) ?_
 clear hp
 refine Wq_val (fun w hp => R_move rfl) rfl ?_
 refine Wq_val (fun w hp => R_move rfl) rfl ?_
 first
   | (refine Wq_val (fun w hp => R_lss_t rfl rfl ?_) rfl ?_; (focus (omega)))
   | (refine Wq_val (fun w hp => R_lss_f rfl rfl ?_) rfl ?_; (focus (omega)))
   | (refine Wq_val (fun w hp => R_lss rfl rfl) rfl ?_)
 refine Wq_val (fun w hp => R_move rfl) rfl ?_
 first
   | refine Wq_guard_lit_t rfl ?_
   | refine Wq_guard_lit_f rfl ?_
   | refine Wq_guard_lit_u rfl ?_
   | refine Wq_guard_split_d rfl rfl rfl (fun hg5 => ?_) (fun hg5 => ?_)
   | refine Wq_guard_split_n rfl rfl rfl (fun hg5 => ?_) (fun hg5 => ?_)
   | refine Wq_guard_split_nb rfl rfl rfl (fun hg5 => ?_) (fun hg5 => ?_)
   | refine Wq_guard_split rfl rfl rfl (fun hg5 => ?_) (fun hg5 => ?_)
 all_goals try (exfalso; first | omega | (simp only [Bool.false_eq_true, reduceCtorEq] at hg5; done) | (refine absurd hg5 ?_; with_reducible assumption) | (refine absurd ?_ hg5; with_reducible assumption))
 all_goals (
  first
    | (iterate 8 refine Wq_guard_no rfl rfl rfl ?_)
    | (iterate 8 refine Wq_guard_un rfl rfl ?_)
    | (refine Wq_guard_yes rfl ?_
       refine Wq_val (fun w hp => R_move rfl) rfl ?_
       refine Wq_guard_yes rfl ?_
       refine Wq_val (fun w hp => R_move rfl) rfl ?_
       refine Wq_guard_yes rfl ?_
       refine Wq_val (fun w hp => R_indexAddr_sl Tryz.underlying23 sz39 rfl rfl ?_ ?_) rfl ?_
       (focus (omega))
       (focus (first | omega | (simp; done) | (simp; omega)))
       refine Wq_guard_yes rfl ?_
       refine Wq_val (fun w hp => R_fieldAddr Tryz.underlying39 rfl sz35 rfl) rfl ?_
       refine Wq_guard_yes rfl ?_
       refine Wq_val (fun w hp => R_load_s Tryz.underlying35 rfl rfl (by exact hp.cell_old0 (file_cell hrX hy (by rfl)))) rfl ?_
       refine Wq_guard_yes rfl ?_
       refine Wq_val (fun w hp => R_fieldAddr Tryz.underlying39 rfl sz35 rfl) rfl ?_
       refine Wq_guard_yes rfl ?_
       refine Wq_val (fun w hp => R_load_s Tryz.underlying35 rfl rfl (by first | exact hp.cellF (by first | assumption | (repeat (first | exact List.mem_cons_self | apply List.mem_append_right | apply List.mem_cons_of_mem))) rfl | exact hp.cell_old0 ‹_› | (refine hp.cell_old0 ?_; assumption) | (apply hp.cellF (by assumption); rfl))) rfl ?_
       refine Wq_guard_yes rfl ?_
       refine Wq_acall rfl (fun w hp => (texts_spec w y.f.path x.f.path y.A x.A y.c x.c (hyk.1.keep hp) (hxk.1.keep hp) (by have := (few_right hf hyf).1; omega))) rfl ?_)
  first
    | (refine Wq_val (fun w hp => R_pick_t rfl rfl) rfl ?_)
    | (refine Wq_val (fun w hp => R_pick_f rfl rfl) rfl ?_)
    | (refine Wq_val (fun w hp => R_pick_b rfl rfl rfl) rfl ?_)
  refine Wq_val (fun w hp => R_move rfl) rfl ?_
  first
    | refine Wq_guard_lit_t rfl ?_
    | refine Wq_guard_lit_f rfl ?_
    | refine Wq_guard_lit_u rfl ?_
    | refine Wq_guard_split_d rfl rfl rfl (fun hg6 => ?_) (fun hg6 => ?_)
    | refine Wq_guard_split_n rfl rfl rfl (fun hg6 => ?_) (fun hg6 => ?_)
    | refine Wq_guard_split_nb rfl rfl rfl (fun hg6 => ?_) (fun hg6 => ?_)
    | refine Wq_guard_split rfl rfl rfl (fun hg6 => ?_) (fun hg6 => ?_)
  all_goals try (exfalso; first | omega | (simp only [Bool.false_eq_true, reduceCtorEq] at hg6; done) | (refine absurd hg6 ?_; with_reducible assumption) | (refine absurd ?_ hg6; with_reducible assumption))
  all_goals (
   first
     | (iterate 7 refine Wq_guard_no rfl rfl rfl ?_)
     | (iterate 7 refine Wq_guard_un rfl rfl ?_)
     | (refine Wq_guard_yes rfl ?_
        refine Wq_val (fun w hp => R_move rfl) rfl ?_
        refine Wq_guard_yes rfl ?_
        refine Wq_val (fun w hp => R_move rfl) rfl ?_
        refine Wq_guard_yes rfl ?_
        refine Wq_val (fun w hp => R_indexAddr_sl Tryz.underlying23 sz39 rfl rfl ?_ ?_) rfl ?_
        (focus (omega))
        (focus (first | omega | (simp; done) | (simp; omega)))
        refine Wq_guard_yes rfl ?_
        refine Wq_val (fun w hp => R_fieldAddr Tryz.underlying39 rfl sz4 rfl) rfl ?_
        refine Wq_guard_yes rfl ?_
        refine Wq_val (fun w hp => R_load_s Tryz.underlying4 rfl rfl (by exact hp.cell_old0 (file_cell hrX hy (by rfl)))) rfl ?_
        refine Wq_guard_yes rfl ?_
        first
          | (refine Wq_val (fun w hp => R_not_t rfl) rfl ?_)
          | (refine Wq_val (fun w hp => R_not_f rfl) rfl ?_)
          | (refine Wq_val (fun w hp => R_not rfl) rfl ?_)
        refine Wq_guard_yes rfl ?_
        refine Wq_val (fun w hp => R_move rfl) rfl ?_)
   first
     | refine Wq_guard_lit_t rfl ?_
     | refine Wq_guard_lit_f rfl ?_
     | refine Wq_guard_lit_u rfl ?_
     | refine Wq_guard_split_d rfl rfl rfl (fun hg7 => ?_) (fun hg7 => ?_)
     | refine Wq_guard_split_n rfl rfl rfl (fun hg7 => ?_) (fun hg7 => ?_)
     | refine Wq_guard_split_nb rfl rfl rfl (fun hg7 => ?_) (fun hg7 => ?_)
     | refine Wq_guard_split rfl rfl rfl (fun hg7 => ?_) (fun hg7 => ?_)
   all_goals try (exfalso; first | omega | (simp only [Bool.false_eq_true, reduceCtorEq] at hg7; done) | (refine absurd hg7 ?_; with_reducible assumption) | (refine absurd ?_ hg7; with_reducible assumption))
   all_goals (
    first
      | (iterate 8 refine Wq_guard_no rfl rfl rfl ?_)
      | (iterate 8 refine Wq_guard_un rfl rfl ?_)
      | (refine Wq_guard_yes rfl ?_
         refine Wq_val (fun w hp => R_move rfl) rfl ?_
         refine Wq_guard_yes rfl ?_
         refine Wq_val (fun w hp => R_move rfl) rfl ?_
         refine Wq_guard_yes rfl ?_
         refine Wq_val (fun w hp => R_indexAddr_sl Tryz.underlying23 sz39 rfl rfl ?_ ?_) rfl ?_
         (focus (omega))
         (focus (first | omega | (simp; done) | (simp; omega)))
         refine Wq_guard_yes rfl ?_
         refine Wq_val (fun w hp => R_fieldAddr Tryz.underlying39 rfl sz35 rfl) rfl ?_
         refine Wq_guard_yes rfl ?_
         refine Wq_val (fun w hp => R_load_s Tryz.underlying35 rfl rfl (by exact hp.cell_old0 (file_cell hrX hy (by rfl)))) rfl ?_
         refine Wq_guard_yes rfl ?_
         refine Wq_val (fun w hp => R_fieldAddr Tryz.underlying39 rfl sz35 rfl) rfl ?_
         refine Wq_guard_yes rfl ?_
         refine Wq_val (fun w hp => R_load_s Tryz.underlying35 rfl rfl (by first | exact hp.cellF (by first | assumption | (repeat (first | exact List.mem_cons_self | apply List.mem_append_right | apply List.mem_cons_of_mem))) rfl | exact hp.cell_old0 ‹_› | (refine hp.cell_old0 ?_; assumption) | (apply hp.cellF (by assumption); rfl))) rfl ?_
         refine Wq_guard_yes rfl ?_
         refine Wq_acall rfl (fun w hp => (rabove_spec w y.f.path y.A y.c (hyk.1.keep hp) x.f.path x.A x.c (hxk.1.keep hp) (by have := (few_right hf hyf).1; omega) hxk.2.1)) rfl ?_)
    first
      | (refine Wq_guard_no rfl rfl rfl ?_)
      | (refine Wq_guard_un rfl rfl ?_)
      | (refine Wq_guard_yes rfl ?_
         first
           | (refine Wq_val (fun w hp => R_pick_t rfl rfl) rfl ?_)
           | (refine Wq_val (fun w hp => R_pick_f rfl rfl) rfl ?_)
           | (refine Wq_val (fun w hp => R_pick_b rfl rfl rfl) rfl ?_))
    first
      | (refine Wq_val (fun w hp => R_pick_t rfl rfl) rfl ?_)
      | (refine Wq_val (fun w hp => R_pick_f rfl rfl) rfl ?_)
      | (refine Wq_val (fun w hp => R_pick_b rfl rfl rfl) rfl ?_)
    refine Wq_end ?_
    intro w hp
    refine N_then_k ?_
    first
      | refine K_cond_d rfl (fun hc8 => ?_) (fun hc8 => ?_)
      | refine K_cond_n rfl (fun hc8 => ?_) (fun hc8 => ?_)
      | refine K_cond_nb rfl (fun hc8 => ?_) (fun hc8 => ?_)
      | refine K_cond_t rfl (fun hc8 => ?_) (fun hc8 => ?_)
    · try (exfalso; first | omega | (simp only [Bool.false_eq_true, reduceCtorEq] at hc8; done) | (refine absurd hc8 ?_; with_reducible assumption) | (refine absurd ?_ hc8; with_reducible assumption))
      all_goals (
 refine K_seq ?_
 refine K_region ?_
 refine W_move rfl rfl ?_
 refine W_assign rfl rfl ?_
 refine W_nil ?_
 refine N_then_k ?_
 refine K_ret ?_
 refine N_block_ret ?_
 refine N_then_ret ?_
 refine N_then_ret ?_
 refine N_block_ret ?_
 refine N_then_ret ?_
 refine N_block_ret ?_
 refine N_then_ret ?_
 refine N_then_ret ?_
 refine N_block_ret ?_
 refine N_then_ret ?_
 refine N_done1 (.inr rfl) rfl rfl ?_
 refine ⟨_, rfl, congrArg (Value.int .i64) ?_, hp.nil⟩
 first
   | exact (check_some hinv hxf (rightF_nil (zero_len (by assumption)))).symm
   | exact (check_some hinv hxf (rightF_plain (by assumption))).symm
   | exact (check_some hinv hxf (rightF_clash hyf (pr1 (by omega) (by assumption)))).symm
   | exact (check_some hinv hxf (rightF_clash hyf (pr2 (by assumption) (by assumption)))).symm
   | exact (check_some hinv hxf (rightF_detail (dt1 (by assumption) (by assumption)))).symm
   | exact (check_some hinv hxf (rightF_detail (dt2 (by assumption) (by omega)))).symm
   | exact (check_some hinv hxf (rightF_detail (df1 (by assumption) (by assumption)))).symm
   | exact (check_some hinv hxf (rightF_detail (df2 (by assumption) (by assumption)))).symm
   | exact (check_some hinv hxf (rightF_detail (df3 (by assumption) (by assumption)))).symm
   | (exfalso; have h1 : x.f.dir = false := (by assumption); have h2 : x.f.dir = true := (by assumption); rw [h1] at h2; cases h2)
   | exact (check_none (fun j g hg => hinv j g (by have := (List.getElem?_eq_some_iff.1 hg).1; rw [filesF_length] at this; omega) hg)).symm)
    · try (exfalso; first | omega | (simp only [Bool.false_eq_true, reduceCtorEq] at hc8; done) | (refine absurd hc8 ?_; with_reducible assumption) | (refine absurd ?_ hc8; with_reducible assumption))
      all_goals (
 refine K_skip ?_
 refine N_block_normal ?_
 refine N_then_k ?_
 refine K_region ?_
 refine W_move rfl rfl ?_
 first
   | (refine W_add rfl rfl (wr_i64 ?_) rfl ?_; (focus (omega)))
   | (refine W_add rfl rfl rfl rfl ?_)
 refine W_assign rfl rfl ?_
 refine W_nil ?_
 refine N_again (k + 1) (sub_end ?_ ?_) ?_ ?_
 · repeat' (first | exact sub_lst_nil (sub_nil _) | refine sub_lst rfl ?_ | (refine sub_lst_eq rfl ?_ ?_; · first | rfl | (simp; done) | (congr 1; omega)))
 · repeat' (first | exact sub_refl _ | exact sub_strip _ _ | refine sub_s_cons rfl ?_ | refine sub_s_lst rfl ?_ | refine sub_s_strip rfl ?_)
 · refine ⟨hp, hltk, fun q g hq hg => ?_⟩
   rcases Nat.lt_or_ge q k with h | h
   · exact hpair q g h hg
   · obtain rfl : q = k := by omega
     rw [hyf] at hg; cases hg
     exact pr3 (by rintro ⟨h1, h2⟩; first | omega | (exact absurd h2 (by assumption))) (by rintro ⟨h1, h2⟩; simp_all)
 · omega)))))
 · try (exfalso; first | omega | (simp only [Bool.false_eq_true, reduceCtorEq] at hc4; done) | (refine absurd hc4 ?_; with_reducible assumption) | (refine absurd ?_ hc4; with_reducible assumption))
   all_goals (
 refine K_exit ?_
 refine N_then_exit ?_
 refine N_then_exit ?_
 refine N_block_exit ?_
 refine N_then_k ?_
 refine K_seq ?_
 refine K_quiet hm hp (by kernel_rfl) ?_
 clear hp
 refine Wq_val (fun w hp => R_fieldAddr Tryz.underlying39 rfl sz4 rfl) rfl ?_
 refine Wq_val (fun w hp => R_load_s Tryz.underlying4 rfl rfl (by first | exact hp.cellF (by first | assumption | (repeat (first | exact List.mem_cons_self | apply List.mem_append_right | apply List.mem_cons_of_mem))) rfl | exact hp.cell_old0 ‹_› | (refine hp.cell_old0 ?_; assumption) | (apply hp.cellF (by assumption); rfl))) rfl ?_
 refine Wq_val (fun w hp => R_move rfl) rfl ?_
 first
   | refine Wq_guard_lit_t rfl ?_
   | refine Wq_guard_lit_f rfl ?_
   | refine Wq_guard_lit_u rfl ?_
   | refine Wq_guard_split_d rfl rfl rfl (fun hg9 => ?_) (fun hg9 => ?_)
   | refine Wq_guard_split_n rfl rfl rfl (fun hg9 => ?_) (fun hg9 => ?_)
   | refine Wq_guard_split_nb rfl rfl rfl (fun hg9 => ?_) (fun hg9 => ?_)
   | refine Wq_guard_split rfl rfl rfl (fun hg9 => ?_) (fun hg9 => ?_)
 all_goals try (exfalso; first | omega | (simp only [Bool.false_eq_true, reduceCtorEq] at hg9; done) | (refine absurd hg9 ?_; with_reducible assumption) | (refine absurd ?_ hg9; with_reducible assumption))
 all_goals (
  first
    | (iterate 4 refine Wq_guard_no rfl rfl rfl ?_)
    | (iterate 4 refine Wq_guard_un rfl rfl ?_)
    | (refine Wq_guard_yes rfl ?_
       refine Wq_val (fun w hp => R_fieldAddr Tryz.underlying39 rfl sz9 rfl) rfl ?_
       refine Wq_guard_yes rfl ?_
       refine Wq_val (fun w hp => R_load_s Tryz.underlying9 rfl rfl (by first | exact hp.cellF (by first | assumption | (repeat (first | exact List.mem_cons_self | apply List.mem_append_right | apply List.mem_cons_of_mem))) rfl | exact hp.cell_old0 ‹_› | (refine hp.cell_old0 ?_; assumption) | (apply hp.cellF (by assumption); rfl))) rfl ?_
       refine Wq_guard_yes rfl ?_
       first
         | (refine Wq_val (fun w hp => R_sneq_f rfl rfl ?_) rfl ?_; (focus (first | rfl | assumption)))
         | (refine Wq_val (fun w hp => R_sneq_t rfl rfl ?_) rfl ?_; (focus (first | assumption | decide | exact List.cons_ne_nil _ _)))
         | (refine Wq_val (fun w hp => R_sneq rfl rfl) rfl ?_)
       refine Wq_guard_yes rfl ?_
       refine Wq_val (fun w hp => R_move rfl) rfl ?_)
  first
    | refine Wq_guard_lit_t rfl ?_
    | refine Wq_guard_lit_f rfl ?_
    | refine Wq_guard_lit_u rfl ?_
    | refine Wq_guard_split_d rfl rfl rfl (fun hg10 => ?_) (fun hg10 => ?_)
    | refine Wq_guard_split_n rfl rfl rfl (fun hg10 => ?_) (fun hg10 => ?_)
    | refine Wq_guard_split_nb rfl rfl rfl (fun hg10 => ?_) (fun hg10 => ?_)
    | refine Wq_guard_split rfl rfl rfl (fun hg10 => ?_) (fun hg10 => ?_)
  all_goals try (exfalso; first | omega | (simp only [Bool.false_eq_true, reduceCtorEq] at hg10; done) | (refine absurd hg10 ?_; with_reducible assumption) | (refine absurd ?_ hg10; with_reducible assumption))
  all_goals (
   first
     | (iterate 4 refine Wq_guard_no rfl rfl rfl ?_)
     | (iterate 4 refine Wq_guard_un rfl rfl ?_)
     | (refine Wq_guard_yes rfl ?_
        refine Wq_val (fun w hp => R_fieldAddr Tryz.underlying39 rfl sz37 rfl) rfl ?_
        refine Wq_guard_yes rfl ?_
        refine Wq_val (fun w hp => R_load_s Tryz.underlying37 rfl rfl (by first | exact hp.cellF (by first | assumption | (repeat (first | exact List.mem_cons_self | apply List.mem_append_right | apply List.mem_cons_of_mem))) rfl | exact hp.cell_old0 ‹_› | (refine hp.cell_old0 ?_; assumption) | (apply hp.cellF (by assumption); rfl))) rfl ?_
        refine Wq_guard_yes rfl ?_
        refine Wq_val (fun w hp => R_len_sl Tryz.underlying37 rfl) rfl ?_
        refine Wq_guard_yes rfl ?_
        first
          | (refine Wq_val (fun w hp => R_gtr_t rfl rfl ?_) rfl ?_; (focus (omega)))
          | (refine Wq_val (fun w hp => R_gtr_f rfl rfl ?_) rfl ?_; (focus (omega)))
          | (refine Wq_val (fun w hp => R_gtr rfl rfl) rfl ?_))
   first
     | (refine Wq_guard_no rfl rfl rfl ?_)
     | (refine Wq_guard_un rfl rfl ?_)
     | (refine Wq_guard_yes rfl ?_
        first
          | (refine Wq_val (fun w hp => R_pick_t rfl rfl) rfl ?_)
          | (refine Wq_val (fun w hp => R_pick_f rfl rfl) rfl ?_)
          | (refine Wq_val (fun w hp => R_pick_b rfl rfl rfl) rfl ?_))
   first
     | (refine Wq_val (fun w hp => R_pick_t rfl rfl) rfl ?_)
     | (refine Wq_val (fun w hp => R_pick_f rfl rfl) rfl ?_)
     | (refine Wq_val (fun w hp => R_pick_b rfl rfl rfl) rfl ?_)
   refine Wq_val (fun w hp => R_move rfl) rfl ?_
   first
     | refine Wq_guard_lit_t rfl ?_
     | refine Wq_guard_lit_f rfl ?_
     | refine Wq_guard_lit_u rfl ?_
     | refine Wq_guard_split_d rfl rfl rfl (fun hg11 => ?_) (fun hg11 => ?_)
     | refine Wq_guard_split_n rfl rfl rfl (fun hg11 => ?_) (fun hg11 => ?_)
     | refine Wq_guard_split_nb rfl rfl rfl (fun hg11 => ?_) (fun hg11 => ?_)
     | refine Wq_guard_split rfl rfl rfl (fun hg11 => ?_) (fun hg11 => ?_)
   all_goals try (exfalso; first | omega | (simp only [Bool.false_eq_true, reduceCtorEq] at hg11; done) | (refine absurd hg11 ?_; with_reducible assumption) | (refine absurd ?_ hg11; with_reducible assumption))
   all_goals (
    first
      | (iterate 4 refine Wq_guard_no rfl rfl rfl ?_)
      | (iterate 4 refine Wq_guard_un rfl rfl ?_)
      | (refine Wq_guard_yes rfl ?_
         refine Wq_val (fun w hp => R_fieldAddr Tryz.underlying39 rfl sz4 rfl) rfl ?_
         refine Wq_guard_yes rfl ?_
         refine Wq_val (fun w hp => R_load_s Tryz.underlying4 rfl rfl (by first | exact hp.cellF (by first | assumption | (repeat (first | exact List.mem_cons_self | apply List.mem_append_right | apply List.mem_cons_of_mem))) rfl | exact hp.cell_old0 ‹_› | (refine hp.cell_old0 ?_; assumption) | (apply hp.cellF (by assumption); rfl))) rfl ?_
         refine Wq_guard_yes rfl ?_
         first
           | (refine Wq_val (fun w hp => R_not_t rfl) rfl ?_)
           | (refine Wq_val (fun w hp => R_not_f rfl) rfl ?_)
           | (refine Wq_val (fun w hp => R_not rfl) rfl ?_)
         refine Wq_guard_yes rfl ?_
         refine Wq_val (fun w hp => R_move rfl) rfl ?_)
    first
      | refine Wq_guard_lit_t rfl ?_
      | refine Wq_guard_lit_f rfl ?_
      | refine Wq_guard_lit_u rfl ?_
      | refine Wq_guard_split_d rfl rfl rfl (fun hg12 => ?_) (fun hg12 => ?_)
      | refine Wq_guard_split_n rfl rfl rfl (fun hg12 => ?_) (fun hg12 => ?_)
      | refine Wq_guard_split_nb rfl rfl rfl (fun hg12 => ?_) (fun hg12 => ?_)
      | refine Wq_guard_split rfl rfl rfl (fun hg12 => ?_) (fun hg12 => ?_)
    all_goals try (exfalso; first | omega | (simp only [Bool.false_eq_true, reduceCtorEq] at hg12; done) | (refine absurd hg12 ?_; with_reducible assumption) | (refine absurd ?_ hg12; with_reducible assumption))
    all_goals (
     first
       | (iterate 4 refine Wq_guard_no rfl rfl rfl ?_)
       | (iterate 4 refine Wq_guard_un rfl rfl ?_)
       | (refine Wq_guard_yes rfl ?_
          refine Wq_val (fun w hp => R_fieldAddr Tryz.underlying39 rfl sz9 rfl) rfl ?_
          refine Wq_guard_yes rfl ?_
          refine Wq_val (fun w hp => R_load_s Tryz.underlying9 rfl rfl (by first | exact hp.cellF (by first | assumption | (repeat (first | exact List.mem_cons_self | apply List.mem_append_right | apply List.mem_cons_of_mem))) rfl | exact hp.cell_old0 ‹_› | (refine hp.cell_old0 ?_; assumption) | (apply hp.cellF (by assumption); rfl))) rfl ?_
          refine Wq_guard_yes rfl ?_
          first
            | (refine Wq_val (fun w hp => R_seql_t rfl rfl ?_) rfl ?_; (focus (first | rfl | assumption)))
            | (refine Wq_val (fun w hp => R_seql_f rfl rfl ?_) rfl ?_; (focus (first | assumption | decide | exact List.cons_ne_nil _ _)))
            | (refine Wq_val (fun w hp => R_seql rfl rfl) rfl ?_)
          refine Wq_guard_yes rfl ?_
          refine Wq_val (fun w hp => R_move rfl) rfl ?_)
     first
       | refine Wq_guard_lit_t rfl ?_
       | refine Wq_guard_lit_f rfl ?_
       | refine Wq_guard_lit_u rfl ?_
       | refine Wq_guard_split_d rfl rfl rfl (fun hg13 => ?_) (fun hg13 => ?_)
       | refine Wq_guard_split_n rfl rfl rfl (fun hg13 => ?_) (fun hg13 => ?_)
       | refine Wq_guard_split_nb rfl rfl rfl (fun hg13 => ?_) (fun hg13 => ?_)
       | refine Wq_guard_split rfl rfl rfl (fun hg13 => ?_) (fun hg13 => ?_)
     all_goals try (exfalso; first | omega | (simp only [Bool.false_eq_true, reduceCtorEq] at hg13; done) | (refine absurd hg13 ?_; with_reducible assumption) | (refine absurd ?_ hg13; with_reducible assumption))
     all_goals (
      first
        | (iterate 4 refine Wq_guard_no rfl rfl rfl ?_)
        | (iterate 4 refine Wq_guard_un rfl rfl ?_)
        | (refine Wq_guard_yes rfl ?_
           refine Wq_val (fun w hp => R_fieldAddr Tryz.underlying39 rfl sz9 rfl) rfl ?_
           refine Wq_guard_yes rfl ?_
           refine Wq_val (fun w hp => R_load_s Tryz.underlying9 rfl rfl (by first | exact hp.cellF (by first | assumption | (repeat (first | exact List.mem_cons_self | apply List.mem_append_right | apply List.mem_cons_of_mem))) rfl | exact hp.cell_old0 ‹_› | (refine hp.cell_old0 ?_; assumption) | (apply hp.cellF (by assumption); rfl))) rfl ?_
           refine Wq_guard_yes rfl ?_
           refine Wq_pcall rfl (rall5_spec x.f.typ (by omega)) rfl ?_
           refine Wq_guard_yes rfl ?_
           first
             | (refine Wq_val (fun w hp => R_not_t rfl) rfl ?_)
             | (refine Wq_val (fun w hp => R_not_f rfl) rfl ?_)
             | (refine Wq_val (fun w hp => R_not rfl) rfl ?_))
      first
        | (iterate 2 refine Wq_guard_no rfl rfl rfl ?_)
        | (iterate 2 refine Wq_guard_un rfl rfl ?_)
        | (refine Wq_guard_yes rfl ?_
           first
             | (refine Wq_val (fun w hp => R_pick_t rfl rfl) rfl ?_)
             | (refine Wq_val (fun w hp => R_pick_f rfl rfl) rfl ?_)
             | (refine Wq_val (fun w hp => R_pick_b rfl rfl rfl) rfl ?_)
           refine Wq_guard_yes rfl ?_
           refine Wq_val (fun w hp => R_move rfl) rfl ?_)
      first
        | refine Wq_guard_lit_t rfl ?_
        | refine Wq_guard_lit_f rfl ?_
        | refine Wq_guard_lit_u rfl ?_
        | refine Wq_guard_split_d rfl rfl rfl (fun hg14 => ?_) (fun hg14 => ?_)
        | refine Wq_guard_split_n rfl rfl rfl (fun hg14 => ?_) (fun hg14 => ?_)
        | refine Wq_guard_split_nb rfl rfl rfl (fun hg14 => ?_) (fun hg14 => ?_)
        | refine Wq_guard_split rfl rfl rfl (fun hg14 => ?_) (fun hg14 => ?_)
      all_goals try (exfalso; first | omega | (simp only [Bool.false_eq_true, reduceCtorEq] at hg14; done) | (refine absurd hg14 ?_; with_reducible assumption) | (refine absurd ?_ hg14; with_reducible assumption))
      all_goals (
       first
         | (iterate 6 refine Wq_guard_no rfl rfl rfl ?_)
         | (iterate 6 refine Wq_guard_un rfl rfl ?_)
         | (refine Wq_guard_yes rfl ?_
            refine Wq_val (fun w hp => R_fieldAddr Tryz.underlying39 rfl sz9 rfl) rfl ?_
            refine Wq_guard_yes rfl ?_
            refine Wq_val (fun w hp => R_load_s Tryz.underlying9 rfl rfl (by first | exact hp.cellF (by first | assumption | (repeat (first | exact List.mem_cons_self | apply List.mem_append_right | apply List.mem_cons_of_mem))) rfl | exact hp.cell_old0 ‹_› | (refine hp.cell_old0 ?_; assumption) | (apply hp.cellF (by assumption); rfl))) rfl ?_
            refine Wq_guard_yes rfl ?_
            refine Wq_pcall rfl (rtrim_spec x.f.typ (by omega)) rfl ?_
            refine Wq_guard_yes rfl ?_
            refine Wq_val (fun w hp => R_fieldAddr Tryz.underlying39 rfl sz9 rfl) rfl ?_
            refine Wq_guard_yes rfl ?_
            refine Wq_val (fun w hp => R_load_s Tryz.underlying9 rfl rfl (by first | exact hp.cellF (by first | assumption | (repeat (first | exact List.mem_cons_self | apply List.mem_append_right | apply List.mem_cons_of_mem))) rfl | exact hp.cell_old0 ‹_› | (refine hp.cell_old0 ?_; assumption) | (apply hp.cellF (by assumption); rfl))) rfl ?_
            refine Wq_guard_yes rfl ?_
            first
              | (refine Wq_val (fun w hp => R_sneq_f rfl rfl ?_) rfl ?_; (focus (first | rfl | assumption)))
              | (refine Wq_val (fun w hp => R_sneq_t rfl rfl ?_) rfl ?_; (focus (first | assumption | decide | exact List.cons_ne_nil _ _)))
              | (refine Wq_val (fun w hp => R_sneq rfl rfl) rfl ?_))
       first
         | (refine Wq_guard_no rfl rfl rfl ?_)
         | (refine Wq_guard_un rfl rfl ?_)
         | (refine Wq_guard_yes rfl ?_
            first
              | (refine Wq_val (fun w hp => R_pick_t rfl rfl) rfl ?_)
              | (refine Wq_val (fun w hp => R_pick_f rfl rfl) rfl ?_)
              | (refine Wq_val (fun w hp => R_pick_b rfl rfl rfl) rfl ?_))
       first
         | (refine Wq_guard_no rfl rfl rfl ?_)
         | (refine Wq_guard_un rfl rfl ?_)
         | (refine Wq_guard_yes rfl ?_
            first
              | (refine Wq_val (fun w hp => R_pick_t rfl rfl) rfl ?_)
              | (refine Wq_val (fun w hp => R_pick_f rfl rfl) rfl ?_)
              | (refine Wq_val (fun w hp => R_pick_b rfl rfl rfl) rfl ?_))
       first
         | (refine Wq_val (fun w hp => R_pick_t rfl rfl) rfl ?_)
         | (refine Wq_val (fun w hp => R_pick_f rfl rfl) rfl ?_)
         | (refine Wq_val (fun w hp => R_pick_b rfl rfl rfl) rfl ?_)
       refine Wq_end ?_
       intro w hp
       refine N_then_k ?_
       first
         | refine K_cond_d rfl (fun hc15 => ?_) (fun hc15 => ?_)
         | refine K_cond_n rfl (fun hc15 => ?_) (fun hc15 => ?_)
         | refine K_cond_nb rfl (fun hc15 => ?_) (fun hc15 => ?_)
         | refine K_cond_t rfl (fun hc15 => ?_) (fun hc15 => ?_)
       · try (exfalso; first | omega | (simp only [Bool.false_eq_true, reduceCtorEq] at hc15; done) | (refine absurd hc15 ?_; with_reducible assumption) | (refine absurd ?_ hc15; with_reducible assumption))
         all_goals (
 refine K_seq ?_
 refine K_region ?_
 refine W_move rfl rfl ?_
 refine W_assign rfl rfl ?_
 refine W_nil ?_
 refine N_then_k ?_
 refine K_ret ?_
 refine N_block_ret ?_
 refine N_then_ret ?_
 refine N_then_ret ?_
 refine N_block_ret ?_
 refine N_then_ret ?_
 refine N_done1 (.inr rfl) rfl rfl ?_
 refine ⟨_, rfl, congrArg (Value.int .i64) ?_, hp.nil⟩
 first
   | exact (check_some hinv hxf (rightF_nil (zero_len (by assumption)))).symm
   | exact (check_some hinv hxf (rightF_plain (by assumption))).symm
   | exact (check_some hinv hxf (rightF_clash hyf (pr1 (by omega) (by assumption)))).symm
   | exact (check_some hinv hxf (rightF_clash hyf (pr2 (by assumption) (by assumption)))).symm
   | exact (check_some hinv hxf (rightF_detail (dt1 (by assumption) (by assumption)))).symm
   | exact (check_some hinv hxf (rightF_detail (dt2 (by assumption) (by omega)))).symm
   | exact (check_some hinv hxf (rightF_detail (df1 (by assumption) (by assumption)))).symm
   | exact (check_some hinv hxf (rightF_detail (df2 (by assumption) (by assumption)))).symm
   | exact (check_some hinv hxf (rightF_detail (df3 (by assumption) (by assumption)))).symm
   | (exfalso; have h1 : x.f.dir = false := (by assumption); have h2 : x.f.dir = true := (by assumption); rw [h1] at h2; cases h2)
   | exact (check_none (fun j g hg => hinv j g (by have := (List.getElem?_eq_some_iff.1 hg).1; rw [filesF_length] at this; omega) hg)).symm)
       · try (exfalso; first | omega | (simp only [Bool.false_eq_true, reduceCtorEq] at hc15; done) | (refine absurd hc15 ?_; with_reducible assumption) | (refine absurd ?_ hc15; with_reducible assumption))
         all_goals (
 refine K_skip ?_
 refine N_block_normal ?_
 refine N_then_k ?_
 refine K_region ?_
 refine W_move rfl rfl ?_
 first
   | (refine W_add rfl rfl (wr_i64 ?_) rfl ?_; (focus (omega)))
   | (refine W_add rfl rfl rfl rfl ?_)
 refine W_assign rfl rfl ?_
 refine W_nil ?_
 refine N_again (i + 1) (sub_end ?_ ?_) ?_ ?_
 · repeat' (first | exact sub_lst_nil (sub_nil _) | refine sub_lst rfl ?_ | (refine sub_lst_eq rfl ?_ ?_; · first | rfl | (simp; done) | (congr 1; omega)))
 · repeat' (first | exact sub_refl _ | exact sub_strip _ _ | refine sub_s_cons rfl ?_ | refine sub_s_lst rfl ?_ | refine sub_s_strip rfl ?_)
 · refine ⟨hp.nil, hlt, fun j g hj hg => ?_⟩
   rcases Nat.lt_or_ge j i with h | h
   · exact hinv j g h hg
   · obtain rfl : j = i := by omega
     rw [hxf] at hg; cases hg
     exact rightF_yes (fun q g hq => hpair q g (by have := (List.getElem?_eq_some_iff.1 hq).1; rw [filesF_length] at this; omega) hq) (fun e => by have := congrArg List.length e; rw [List.length_nil] at this; omega) (by assumption) (by first | exact dt3 (by assumption) (by assumption) (by omega) | exact df4 (by assumption) (by assumption) (by assumption) (by assumption) | (exfalso; have h1 : x.f.dir = false := (by assumption); have h2 : x.f.dir = true := (by assumption); rw [h1] at h2; cases h2))
 · omega))))))))))))
 · try (exfalso; first | omega | (simp only [Bool.false_eq_true, reduceCtorEq] at hc1; done) | (refine absurd hc1 ?_; with_reducible assumption) | (refine absurd ?_ hc1; with_reducible assumption))
   all_goals (
 refine K_exit ?_
 refine N_then_exit ?_
 refine N_then_exit ?_
 refine N_block_exit ?_
 refine N_then_k ?_
 refine K_seq ?_
 refine K_region ?_
 refine W_assign rfl rfl ?_
 refine W_nil ?_
 refine N_then_k ?_
 refine K_ret ?_
 refine N_done1 (.inr rfl) rfl rfl ?_
 refine ⟨_, rfl, congrArg (Value.int .i64) ?_, hp.nil⟩
 first
   | exact (check_some hinv hxf (rightF_nil (zero_len (by assumption)))).symm
   | exact (check_some hinv hxf (rightF_plain (by assumption))).symm
   | exact (check_some hinv hxf (rightF_clash hyf (pr1 (by omega) (by assumption)))).symm
   | exact (check_some hinv hxf (rightF_clash hyf (pr2 (by assumption) (by assumption)))).symm
   | exact (check_some hinv hxf (rightF_detail (dt1 (by assumption) (by assumption)))).symm
   | exact (check_some hinv hxf (rightF_detail (dt2 (by assumption) (by omega)))).symm
   | exact (check_some hinv hxf (rightF_detail (df1 (by assumption) (by assumption)))).symm
   | exact (check_some hinv hxf (rightF_detail (df2 (by assumption) (by assumption)))).symm
   | exact (check_some hinv hxf (rightF_detail (df3 (by assumption) (by assumption)))).symm
   | (exfalso; have h1 : x.f.dir = false := (by assumption); have h2 : x.f.dir = true := (by assumption); rw [h1] at h2; cases h2)
   | exact (check_none (fun j g hg => hinv j g (by have := (List.getElem?_eq_some_iff.1 hg).1; rw [filesF_length] at this; omega) hg)).symm))

theorem any_not (L : Path) : (L.any fun s => !plainS s) = !(L.all plainS) := by
  induction L with
  | nil => rfl
  | cons a L ih => simp only [List.any_cons, List.all_cons, ih, Bool.not_and]

set_option maxHeartbeats 4000000 in
theorem right_spec (w0 : World) (X : List FS) (A : Option Addr) (c : Nat) (hrX : Rd w0 (.slice A X.length c) X.length (filesC X)) (hok : ∀ x ∈ X, FSok w0 x) (hn : X.length ≤ 100) (hf : fewT (filesF X) = true) (i : Nat) (x : FS) (hx : X[i]? = some x) : PureAt Tryz.prog 29 [.slice A X.length c, .int .i64 i] (.bool (rightF (filesF X) i x.f)) w0 := by
  have hxf := filesF_at hx
  have hxk := hok x (List.mem_of_getElem? hx)
  obtain ⟨bb, oo, rfl⟩ := file_some hrX hx
  obtain ⟨hq1, hq2, hq3, hq4⟩ := few_right hf hxf
  have hlt := (List.getElem?_eq_some_iff.1 hx).1
  refine PureAt.intro go29 Tryz.func29 rfl rfl fun hp => ?_
  refine (fun (hk : ∀ w, Hp w0 [] [] w → K _ _ _ _ _ w) => hk w0 hp) fun w hp => ?_
  refine K_seq ?_
  refine K_region ?_
  refine W_assign rfl rfl ?_
  refine W_nil ?_
  refine N_then_k ?_
  refine K_seq ?_
  refine K_region ?_
  refine W_move rfl rfl ?_
  refine W_move rfl rfl ?_
  refine W_indexAddr_sl Tryz.underlying23 sz39 rfl rfl ?_ ?_ rfl ?_
  (focus (omega))
  (focus (first | omega | (simp; done) | (simp; omega)))
  refine W_load_a (cs := x.cells) Tryz.underlying39 rfl sz39 rfl rfl (fun j u hj => hp.cell_old0 (file_cell hrX hx hj)) rfl ?_
  refine W_alloc hp zv39 rfl rfl ?_
  clear hp; intro b5 w hp
  refine W_storeF (A := []) (cs := x.cells) hp rfl sz39 rfl rfl rfl rfl ?_ ?_ (cells_one x) rfl ?_
  · exact Nat.le_refl _
  · exact .inl (Nat.zero_le _)
  clear hp; intro w hp
  simp only [List.nil_append, List.cons_append] at hp
  refine W_nil ?_
  refine N_then_k ?_
  refine K_seq ?_
  refine K_seq ?_
  refine K_region ?_
  refine W_move rfl rfl ?_
  refine W_len_sl Tryz.underlying23 rfl rfl ?_
  refine W_move rfl rfl ?_
  refine W_nil ?_
  refine N_then_k ?_
  refine K_block ?_
  refine K_loop (σ := Nat) [4, 6, 7, 14, 15, 16, 17, 18, 19, 20, 21, 22, 23, 24, 25, 26, 27, 28, 29, 30, 31, 32, 33, 34, 35, 36, 37, 38, 39, 40, 41]
      (fun k => [(14, .int .i64 k)])
      (fun k w => Hp w0 [] [(b5, .cells x.cells.toArray 39)] w ∧ k ≤ X.length ∧ ∀ q g, q < k → (filesF X)[q]? = some g → pairB i x.f q g = false)
      (fun k => X.length - k) (0) ?_ ?_ ?_
  · repeat' (first | exact sub_lst_nil (sub_nil _) | refine sub_lst rfl ?_ | (refine sub_lst_eq rfl ?_ ?_; · first | rfl | (simp; done) | (congr 1; omega)))
  · exact ⟨hp, Nat.zero_le _, fun q g hq => absurd hq (by omega)⟩
  · intro k w hJ
    clear hp
    obtain ⟨hp, hlek, hpair⟩ := hJ
    rcases Nat.lt_or_ge k X.length with hltk | hgek
    all_goals (
 refine K_seq ?_
 refine K_region ?_
 first
   | (refine W_lss_t rfl rfl ?_ rfl ?_; (focus (omega)))
   | (refine W_lss_f rfl rfl ?_ rfl ?_; (focus (omega)))
   | (refine W_lss rfl rfl rfl ?_)
 refine W_nil ?_
 refine N_then_k ?_
 refine K_seq ?_
 first
   | refine K_cond_d rfl (fun hc1 => ?_) (fun hc1 => ?_)
   | refine K_cond_n rfl (fun hc1 => ?_) (fun hc1 => ?_)
   | refine K_cond_nb rfl (fun hc1 => ?_) (fun hc1 => ?_)
   | refine K_cond_t rfl (fun hc1 => ?_) (fun hc1 => ?_)
 · try (exfalso; first | omega | (simp only [Bool.false_eq_true, reduceCtorEq] at hc1; done) | (refine absurd hc1 ?_; with_reducible assumption) | (refine absurd ?_ hc1; with_reducible assumption))
   all_goals (
 refine K_skip ?_
 refine N_then_k ?_
 refine K_seq ?_
 refine K_block ?_
 refine K_seq ?_
 obtain ⟨y, hy⟩ : ∃ x, X[k]? = some x := ⟨_, List.getElem?_eq_getElem hltk⟩
 have hyf := filesF_at hy
 have hyk := hok y (List.mem_of_getElem? hy)
 refine K_region ?_
 refine W_move rfl rfl ?_
 refine W_indexAddr_sl Tryz.underlying23 sz39 rfl rfl ?_ ?_ rfl ?_
 (focus (omega))
 (focus (first | omega | (simp; done) | (simp; omega)))
 refine W_load_a (cs := y.cells) Tryz.underlying39 rfl sz39 rfl rfl (fun j u hj => hp.cell_old0 (file_cell hrX hy hj)) rfl ?_
 refine W_alloc hp zv39 rfl rfl ?_
 clear hp; intro b7 w hp
 refine W_assign rfl rfl ?_
 refine W_storeF (A := []) (cs := y.cells) hp rfl sz39 rfl rfl rfl rfl ?_ ?_ (cells_one y) rfl ?_
 · exact Nat.le_refl _
 · exact .inl (Nat.zero_le _)
 clear hp; intro w hp
 simp only [List.nil_append, List.cons_append] at hp
 refine W_nil ?_
 refine N_then_k ?_
 refine K_seq ?_
 refine K_region ?_
 refine W_move rfl rfl ?_
 refine W_move rfl rfl ?_
 first
   | (refine W_lss_t rfl rfl ?_ rfl ?_; (focus (omega)))
   | (refine W_lss_f rfl rfl ?_ rfl ?_; (focus (omega)))
   | (refine W_lss rfl rfl rfl ?_)
 refine W_move rfl rfl ?_
 first
   | refine W_guard_lit_t rfl ?_
   | refine W_guard_lit_f rfl ?_
   | refine W_guard_lit_u rfl ?_
   | refine W_guard_split_d rfl rfl rfl (fun hg2 => ?_) (fun hg2 => ?_)
   | refine W_guard_split_n rfl rfl rfl (fun hg2 => ?_) (fun hg2 => ?_)
   | refine W_guard_split_nb rfl rfl rfl (fun hg2 => ?_) (fun hg2 => ?_)
   | refine W_guard_split rfl rfl rfl (fun hg2 => ?_) (fun hg2 => ?_)
 all_goals try (exfalso; first | omega | (simp only [Bool.false_eq_true, reduceCtorEq] at hg2; done) | (refine absurd hg2 ?_; with_reducible assumption) | (refine absurd ?_ hg2; with_reducible assumption))
 all_goals (
  first
    | (iterate 5 refine W_guard_no rfl rfl rfl ?_)
    | (iterate 5 refine W_guard_un rfl rfl ?_)
    | (refine W_guard_yes rfl ?_
       refine W_fieldAddr Tryz.underlying39 rfl sz35 rfl rfl ?_
       refine W_guard_yes rfl ?_
       refine W_load_s Tryz.underlying35 rfl rfl (by first | exact hp.cellF (by first | assumption | (repeat (first | exact List.mem_cons_self | apply List.mem_append_right | apply List.mem_cons_of_mem))) rfl | exact hp.cell_old0 ‹_› | (refine hp.cell_old0 ?_; assumption) | (apply hp.cellF (by assumption); rfl)) rfl ?_
       refine W_guard_yes rfl ?_
       refine W_fieldAddr Tryz.underlying39 rfl sz35 rfl rfl ?_
       refine W_guard_yes rfl ?_
       refine W_load_s Tryz.underlying35 rfl rfl (by first | exact hp.cellF (by first | assumption | (repeat (first | exact List.mem_cons_self | apply List.mem_append_right | apply List.mem_cons_of_mem))) rfl | exact hp.cell_old0 ‹_› | (refine hp.cell_old0 ?_; assumption) | (apply hp.cellF (by assumption); rfl)) rfl ?_
       refine W_guard_yes rfl ?_
       refine W_acall hp rfl ((equal_spec w y.f.path y.A y.c (hyk.1.keep hp) x.f.path x.A x.c (hxk.1.keep hp) (by have := (few_right hf hyf).1; omega))) rfl ?_
       clear hp; intro w hp)
  first
    | (refine W_pick_t rfl rfl rfl ?_)
    | (refine W_pick_f rfl rfl rfl ?_)
    | (refine W_pick_b rfl rfl rfl rfl ?_)
  refine W_move rfl rfl ?_
  first
    | refine W_guard_lit_t rfl ?_
    | refine W_guard_lit_f rfl ?_
    | refine W_guard_lit_u rfl ?_
    | refine W_guard_split_d rfl rfl rfl (fun hg3 => ?_) (fun hg3 => ?_)
    | refine W_guard_split_n rfl rfl rfl (fun hg3 => ?_) (fun hg3 => ?_)
    | refine W_guard_split_nb rfl rfl rfl (fun hg3 => ?_) (fun hg3 => ?_)
    | refine W_guard_split rfl rfl rfl (fun hg3 => ?_) (fun hg3 => ?_)
  all_goals try (exfalso; first | omega | (simp only [Bool.false_eq_true, reduceCtorEq] at hg3; done) | (refine absurd hg3 ?_; with_reducible assumption) | (refine absurd ?_ hg3; with_reducible assumption))
  all_goals (
   first
     | (iterate 4 refine W_guard_no rfl rfl rfl ?_)
     | (iterate 4 refine W_guard_un rfl rfl ?_)
     | (refine W_guard_yes rfl ?_
        refine W_fieldAddr Tryz.underlying39 rfl sz4 rfl rfl ?_
        refine W_guard_yes rfl ?_
        refine W_load_s Tryz.underlying4 rfl rfl (by first | exact hp.cellF (by first | assumption | (repeat (first | exact List.mem_cons_self | apply List.mem_append_right | apply List.mem_cons_of_mem))) rfl | exact hp.cell_old0 ‹_› | (refine hp.cell_old0 ?_; assumption) | (apply hp.cellF (by assumption); rfl)) rfl ?_
        refine W_guard_yes rfl ?_
        first
          | (refine W_not_t rfl rfl ?_)
          | (refine W_not_f rfl rfl ?_)
          | (refine W_not rfl rfl ?_)
        refine W_guard_yes rfl ?_
        refine W_move rfl rfl ?_)
   first
     | refine W_guard_lit_t rfl ?_
     | refine W_guard_lit_f rfl ?_
     | refine W_guard_lit_u rfl ?_
     | refine W_guard_split_d rfl rfl rfl (fun hg4 => ?_) (fun hg4 => ?_)
     | refine W_guard_split_n rfl rfl rfl (fun hg4 => ?_) (fun hg4 => ?_)
     | refine W_guard_split_nb rfl rfl rfl (fun hg4 => ?_) (fun hg4 => ?_)
     | refine W_guard_split rfl rfl rfl (fun hg4 => ?_) (fun hg4 => ?_)
   all_goals try (exfalso; first | omega | (simp only [Bool.false_eq_true, reduceCtorEq] at hg4; done) | (refine absurd hg4 ?_; with_reducible assumption) | (refine absurd ?_ hg4; with_reducible assumption))
   all_goals (
    first
      | (iterate 5 refine W_guard_no rfl rfl rfl ?_)
      | (iterate 5 refine W_guard_un rfl rfl ?_)
      | (refine W_guard_yes rfl ?_
         refine W_fieldAddr Tryz.underlying39 rfl sz35 rfl rfl ?_
         refine W_guard_yes rfl ?_
         refine W_load_s Tryz.underlying35 rfl rfl (by first | exact hp.cellF (by first | assumption | (repeat (first | exact List.mem_cons_self | apply List.mem_append_right | apply List.mem_cons_of_mem))) rfl | exact hp.cell_old0 ‹_› | (refine hp.cell_old0 ?_; assumption) | (apply hp.cellF (by assumption); rfl)) rfl ?_
         refine W_guard_yes rfl ?_
         refine W_fieldAddr Tryz.underlying39 rfl sz35 rfl rfl ?_
         refine W_guard_yes rfl ?_
         refine W_load_s Tryz.underlying35 rfl rfl (by first | exact hp.cellF (by first | assumption | (repeat (first | exact List.mem_cons_self | apply List.mem_append_right | apply List.mem_cons_of_mem))) rfl | exact hp.cell_old0 ‹_› | (refine hp.cell_old0 ?_; assumption) | (apply hp.cellF (by assumption); rfl)) rfl ?_
         refine W_guard_yes rfl ?_
         refine W_acall hp rfl ((above_spec w y.f.path y.A y.c (hyk.1.keep hp) x.f.path x.A x.c (hxk.1.keep hp) (by have := (few_right hf hyf).1; omega) hxk.2.1)) rfl ?_
         clear hp; intro w hp)
    first
      | (refine W_guard_no rfl rfl rfl ?_)
      | (refine W_guard_un rfl rfl ?_)
      | (refine W_guard_yes rfl ?_
         first
           | (refine W_pick_t rfl rfl rfl ?_)
           | (refine W_pick_f rfl rfl rfl ?_)
           | (refine W_pick_b rfl rfl rfl rfl ?_))
    first
      | (refine W_pick_t rfl rfl rfl ?_)
      | (refine W_pick_f rfl rfl rfl ?_)
      | (refine W_pick_b rfl rfl rfl rfl ?_)
    refine W_nil ?_
    refine N_then_k ?_
    first
      | refine K_cond_d rfl (fun hc5 => ?_) (fun hc5 => ?_)
      | refine K_cond_n rfl (fun hc5 => ?_) (fun hc5 => ?_)
      | refine K_cond_nb rfl (fun hc5 => ?_) (fun hc5 => ?_)
      | refine K_cond_t rfl (fun hc5 => ?_) (fun hc5 => ?_)
    · try (exfalso; first | omega | (simp only [Bool.false_eq_true, reduceCtorEq] at hc5; done) | (refine absurd hc5 ?_; with_reducible assumption) | (refine absurd ?_ hc5; with_reducible assumption))
      all_goals (
 refine K_seq ?_
 refine K_region ?_
 refine W_assign rfl rfl ?_
 refine W_nil ?_
 refine N_then_k ?_
 refine K_ret ?_
 refine N_block_ret ?_
 refine N_then_ret ?_
 refine N_then_ret ?_
 refine N_block_ret ?_
 refine N_then_ret ?_
 refine N_done1 (.inr rfl) rfl rfl ?_
 refine ⟨_, rfl, congrArg Value.bool ?_, hp.nil⟩
 first
   | exact (rightF_clash hyf (pr1 (by omega) (by assumption))).symm
   | exact (rightF_clash hyf (pr2 (by assumption) (by assumption))).symm
   | exact (rightF_nil (zero_len (by assumption))).symm
   | exact (rightF_plain hall).symm
   | exact (rightF_detail (dt1 (by assumption) (by assumption))).symm
   | exact (rightF_detail (dt2 (by assumption) (by omega))).symm
   | exact (rightF_detail (df1 (by assumption) (by assumption))).symm
   | exact (rightF_detail (df2 (by assumption) (by assumption))).symm
   | exact (rightF_detail (df3 (by assumption) (by assumption))).symm
   | (have hd : x.f.dir = true := (by assumption)
      have ht : x.f.typ = [] := (by assumption)
      rcases Nat.eq_zero_or_pos x.f.body.length with hz | hz
      · rw [rightF_yes (fun q g hq => hpair q g (by have := (List.getElem?_eq_some_iff.1 hq).1; rw [filesF_length] at this; omega) hq) (fun e => by have := congrArg List.length e; rw [List.length_nil] at this; omega) hall (dt3 hd ht hz)]; exact decide_eq_true (by omega)
      · rw [rightF_detail (dt2 hd hz)]; exact decide_eq_false (by omega))
   | (have hd : x.f.dir = false := (by assumption)
      have ht : x.f.typ ≠ [] := (by assumption)
      have ha : x.f.typ.all fieldB = true := (by assumption)
      by_cases hz : trim x.f.typ = x.f.typ
      · rw [rightF_yes (fun q g hq => hpair q g (by have := (List.getElem?_eq_some_iff.1 hq).1; rw [filesF_length] at this; omega) hq) (fun e => by have := congrArg List.length e; rw [List.length_nil] at this; omega) hall (df4 hd ht ha hz)]; exact decide_eq_true hz
      · rw [rightF_detail (df3 hd hz)]; exact decide_eq_false hz))
    · try (exfalso; first | omega | (simp only [Bool.false_eq_true, reduceCtorEq] at hc5; done) | (refine absurd hc5 ?_; with_reducible assumption) | (refine absurd ?_ hc5; with_reducible assumption))
      all_goals (
 refine K_skip ?_
 refine N_block_normal ?_
 refine N_then_k ?_
 refine K_region ?_
 first
   | (refine W_add rfl rfl (wr_i64 ?_) rfl ?_; (focus (omega)))
   | (refine W_add rfl rfl rfl rfl ?_)
 refine W_move rfl rfl ?_
 refine W_nil ?_
 refine N_again (k + 1) (sub_end ?_ ?_) ?_ ?_
 · repeat' (first | exact sub_lst_nil (sub_nil _) | refine sub_lst rfl ?_ | (refine sub_lst_eq rfl ?_ ?_; · first | rfl | (simp; done) | (congr 1; omega)))
 · repeat' (first | exact sub_refl _ | exact sub_strip _ _ | refine sub_s_cons rfl ?_ | refine sub_s_lst rfl ?_ | refine sub_s_strip rfl ?_)
 · refine ⟨hp.drop (List.sublist_cons_self _ _), hltk, fun q g hq hg => ?_⟩
   rcases Nat.lt_or_ge q k with h | h
   · exact hpair q g h hg
   · obtain rfl : q = k := by omega
     rw [hyf] at hg; cases hg
     exact pr3 (by rintro ⟨h1, h2⟩; first | omega | (exact absurd h2 (by assumption))) (by rintro ⟨h1, h2⟩; simp_all)
 · omega)))))
 · try (exfalso; first | omega | (simp only [Bool.false_eq_true, reduceCtorEq] at hc1; done) | (refine absurd hc1 ?_; with_reducible assumption) | (refine absurd ?_ hc1; with_reducible assumption))
   all_goals (
 refine K_exit ?_
 refine N_then_exit ?_
 refine N_then_exit ?_
 refine N_block_exit ?_
 refine N_then_k ?_
 refine K_seq ?_
 refine K_seq ?_
 replace hp : Hp w0 [] [(b5, .cells x.cells.toArray 39)] w := hp
 cases hall : x.f.path.all plainS
 all_goals (
  refine K_region ?_
  refine W_fieldAddr Tryz.underlying39 rfl sz35 rfl rfl ?_
  refine W_load_s Tryz.underlying35 rfl rfl (by first | exact hp.cellF (by first | assumption | (repeat (first | exact List.mem_cons_self | apply List.mem_append_right | apply List.mem_cons_of_mem))) rfl | exact hp.cell_old0 ‹_› | (refine hp.cell_old0 ?_; assumption) | (apply hp.cellF (by assumption); rfl)) rfl ?_
  refine W_len_sl Tryz.underlying35 rfl rfl ?_
  first
    | (refine W_eql_t rfl rfl ?_ rfl ?_; (focus (omega)))
    | (refine W_eql_f rfl rfl ?_ rfl ?_; (focus (omega)))
    | (refine W_eql rfl rfl rfl ?_)
  refine W_move rfl rfl ?_
  first
    | refine W_guard_lit_t rfl ?_
    | refine W_guard_lit_f rfl ?_
    | refine W_guard_lit_u rfl ?_
    | refine W_guard_split_d rfl rfl rfl (fun hg6 => ?_) (fun hg6 => ?_)
    | refine W_guard_split_n rfl rfl rfl (fun hg6 => ?_) (fun hg6 => ?_)
    | refine W_guard_split_nb rfl rfl rfl (fun hg6 => ?_) (fun hg6 => ?_)
    | refine W_guard_split rfl rfl rfl (fun hg6 => ?_) (fun hg6 => ?_)
  all_goals try (exfalso; first | omega | (simp only [Bool.false_eq_true, reduceCtorEq] at hg6; done) | (refine absurd hg6 ?_; with_reducible assumption) | (refine absurd ?_ hg6; with_reducible assumption))
  all_goals (
   first
     | (iterate 3 refine W_guard_no rfl rfl rfl ?_)
     | (iterate 3 refine W_guard_un rfl rfl ?_)
     | (refine W_guard_yes rfl ?_
        refine W_fieldAddr Tryz.underlying39 rfl sz35 rfl rfl ?_
        refine W_guard_yes rfl ?_
        refine W_load_s Tryz.underlying35 rfl rfl (by first | exact hp.cellF (by first | assumption | (repeat (first | exact List.mem_cons_self | apply List.mem_append_right | apply List.mem_cons_of_mem))) rfl | exact hp.cell_old0 ‹_› | (refine hp.cell_old0 ?_; assumption) | (apply hp.cellF (by assumption); rfl)) rfl ?_
        refine W_guard_yes rfl ?_
        refine W_acall hp rfl (((containsf_spec w x.f.path x.A x.c (hxk.1.keep hp) (by omega) _ (fun s => !plainS s) (fun s hs => (right1_spec s (hq2 s hs)).toV)).eq (congrArg Value.bool ((any_not _).trans (congrArg (fun b => !b) hall))))) rfl ?_
        clear hp; intro w hp)
   first
     | (refine W_pick_t rfl rfl rfl ?_)
     | (refine W_pick_f rfl rfl rfl ?_)
     | (refine W_pick_b rfl rfl rfl rfl ?_)
   refine W_nil ?_
   refine N_then_k ?_
   first
     | refine K_cond_d rfl (fun hc7 => ?_) (fun hc7 => ?_)
     | refine K_cond_n rfl (fun hc7 => ?_) (fun hc7 => ?_)
     | refine K_cond_nb rfl (fun hc7 => ?_) (fun hc7 => ?_)
     | refine K_cond_t rfl (fun hc7 => ?_) (fun hc7 => ?_)
   · try (exfalso; first | omega | (simp only [Bool.false_eq_true, reduceCtorEq] at hc7; done) | (refine absurd hc7 ?_; with_reducible assumption) | (refine absurd ?_ hc7; with_reducible assumption))
     all_goals (
 refine K_seq ?_
 refine K_region ?_
 refine W_assign rfl rfl ?_
 refine W_nil ?_
 refine N_then_k ?_
 refine K_ret ?_
 refine N_then_ret ?_
 refine N_done1 (.inr rfl) rfl rfl ?_
 refine ⟨_, rfl, congrArg Value.bool ?_, hp.nil⟩
 first
   | exact (rightF_clash hyf (pr1 (by omega) (by assumption))).symm
   | exact (rightF_clash hyf (pr2 (by assumption) (by assumption))).symm
   | exact (rightF_nil (zero_len (by assumption))).symm
   | exact (rightF_plain hall).symm
   | exact (rightF_detail (dt1 (by assumption) (by assumption))).symm
   | exact (rightF_detail (dt2 (by assumption) (by omega))).symm
   | exact (rightF_detail (df1 (by assumption) (by assumption))).symm
   | exact (rightF_detail (df2 (by assumption) (by assumption))).symm
   | exact (rightF_detail (df3 (by assumption) (by assumption))).symm
   | (have hd : x.f.dir = true := (by assumption)
      have ht : x.f.typ = [] := (by assumption)
      rcases Nat.eq_zero_or_pos x.f.body.length with hz | hz
      · rw [rightF_yes (fun q g hq => hpair q g (by have := (List.getElem?_eq_some_iff.1 hq).1; rw [filesF_length] at this; omega) hq) (fun e => by have := congrArg List.length e; rw [List.length_nil] at this; omega) hall (dt3 hd ht hz)]; exact decide_eq_true (by omega)
      · rw [rightF_detail (dt2 hd hz)]; exact decide_eq_false (by omega))
   | (have hd : x.f.dir = false := (by assumption)
      have ht : x.f.typ ≠ [] := (by assumption)
      have ha : x.f.typ.all fieldB = true := (by assumption)
      by_cases hz : trim x.f.typ = x.f.typ
      · rw [rightF_yes (fun q g hq => hpair q g (by have := (List.getElem?_eq_some_iff.1 hq).1; rw [filesF_length] at this; omega) hq) (fun e => by have := congrArg List.length e; rw [List.length_nil] at this; omega) hall (df4 hd ht ha hz)]; exact decide_eq_true hz
      · rw [rightF_detail (df3 hd hz)]; exact decide_eq_false hz))
   · try (exfalso; first | omega | (simp only [Bool.false_eq_true, reduceCtorEq] at hc7; done) | (refine absurd hc7 ?_; with_reducible assumption) | (refine absurd ?_ hc7; with_reducible assumption))
     all_goals (
 refine K_skip ?_
 refine N_then_k ?_
 refine K_seq ?_
 refine K_seq ?_
 refine K_region ?_
 refine W_fieldAddr Tryz.underlying39 rfl sz4 rfl rfl ?_
 refine W_load_s Tryz.underlying4 rfl rfl (by first | exact hp.cellF (by first | assumption | (repeat (first | exact List.mem_cons_self | apply List.mem_append_right | apply List.mem_cons_of_mem))) rfl | exact hp.cell_old0 ‹_› | (refine hp.cell_old0 ?_; assumption) | (apply hp.cellF (by assumption); rfl)) rfl ?_
 refine W_nil ?_
 refine N_then_k ?_
 first
   | refine K_cond_d rfl (fun hc8 => ?_) (fun hc8 => ?_)
   | refine K_cond_n rfl (fun hc8 => ?_) (fun hc8 => ?_)
   | refine K_cond_nb rfl (fun hc8 => ?_) (fun hc8 => ?_)
   | refine K_cond_t rfl (fun hc8 => ?_) (fun hc8 => ?_)
 · try (exfalso; first | omega | (simp only [Bool.false_eq_true, reduceCtorEq] at hc8; done) | (refine absurd hc8 ?_; with_reducible assumption) | (refine absurd ?_ hc8; with_reducible assumption))
   all_goals (
 refine K_seq ?_
 refine K_region ?_
 refine W_fieldAddr Tryz.underlying39 rfl sz9 rfl rfl ?_
 refine W_load_s Tryz.underlying9 rfl rfl (by first | exact hp.cellF (by first | assumption | (repeat (first | exact List.mem_cons_self | apply List.mem_append_right | apply List.mem_cons_of_mem))) rfl | exact hp.cell_old0 ‹_› | (refine hp.cell_old0 ?_; assumption) | (apply hp.cellF (by assumption); rfl)) rfl ?_
 first
   | (refine W_seql_t rfl rfl ?_ rfl ?_; (focus (first | rfl | assumption)))
   | (refine W_seql_f rfl rfl ?_ rfl ?_; (focus (first | assumption | decide | exact List.cons_ne_nil _ _)))
   | (refine W_seql rfl rfl rfl ?_)
 refine W_move rfl rfl ?_
 first
   | refine W_guard_lit_t rfl ?_
   | refine W_guard_lit_f rfl ?_
   | refine W_guard_lit_u rfl ?_
   | refine W_guard_split_d rfl rfl rfl (fun hg9 => ?_) (fun hg9 => ?_)
   | refine W_guard_split_n rfl rfl rfl (fun hg9 => ?_) (fun hg9 => ?_)
   | refine W_guard_split_nb rfl rfl rfl (fun hg9 => ?_) (fun hg9 => ?_)
   | refine W_guard_split rfl rfl rfl (fun hg9 => ?_) (fun hg9 => ?_)
 all_goals try (exfalso; first | omega | (simp only [Bool.false_eq_true, reduceCtorEq] at hg9; done) | (refine absurd hg9 ?_; with_reducible assumption) | (refine absurd ?_ hg9; with_reducible assumption))
 all_goals (
  first
    | (iterate 4 refine W_guard_no rfl rfl rfl ?_)
    | (iterate 4 refine W_guard_un rfl rfl ?_)
    | (refine W_guard_yes rfl ?_
       refine W_fieldAddr Tryz.underlying39 rfl sz37 rfl rfl ?_
       refine W_guard_yes rfl ?_
       refine W_load_s Tryz.underlying37 rfl rfl (by first | exact hp.cellF (by first | assumption | (repeat (first | exact List.mem_cons_self | apply List.mem_append_right | apply List.mem_cons_of_mem))) rfl | exact hp.cell_old0 ‹_› | (refine hp.cell_old0 ?_; assumption) | (apply hp.cellF (by assumption); rfl)) rfl ?_
       refine W_guard_yes rfl ?_
       refine W_len_sl Tryz.underlying37 rfl rfl ?_
       refine W_guard_yes rfl ?_
       first
         | (refine W_eql_t rfl rfl ?_ rfl ?_; (focus (omega)))
         | (refine W_eql_f rfl rfl ?_ rfl ?_; (focus (omega)))
         | (refine W_eql rfl rfl rfl ?_))
  first
    | (refine W_pick_t rfl rfl rfl ?_)
    | (refine W_pick_f rfl rfl rfl ?_)
    | (refine W_pick_b rfl rfl rfl rfl ?_)
  refine W_assign rfl rfl ?_
  refine W_nil ?_
  refine N_then_k ?_
  refine K_ret ?_
  refine N_then_ret ?_
  refine N_done1 (.inr rfl) rfl rfl ?_
  refine ⟨_, rfl, congrArg Value.bool ?_, hp.nil⟩
  first
    | exact (rightF_clash hyf (pr1 (by omega) (by assumption))).symm
    | exact (rightF_clash hyf (pr2 (by assumption) (by assumption))).symm
    | exact (rightF_nil (zero_len (by assumption))).symm
    | exact (rightF_plain hall).symm
    | exact (rightF_detail (dt1 (by assumption) (by assumption))).symm
    | exact (rightF_detail (dt2 (by assumption) (by omega))).symm
    | exact (rightF_detail (df1 (by assumption) (by assumption))).symm
    | exact (rightF_detail (df2 (by assumption) (by assumption))).symm
    | exact (rightF_detail (df3 (by assumption) (by assumption))).symm
    | (have hd : x.f.dir = true := (by assumption)
       have ht : x.f.typ = [] := (by assumption)
       rcases Nat.eq_zero_or_pos x.f.body.length with hz | hz
       · rw [rightF_yes (fun q g hq => hpair q g (by have := (List.getElem?_eq_some_iff.1 hq).1; rw [filesF_length] at this; omega) hq) (fun e => by have := congrArg List.length e; rw [List.length_nil] at this; omega) hall (dt3 hd ht hz)]; exact decide_eq_true (by omega)
       · rw [rightF_detail (dt2 hd hz)]; exact decide_eq_false (by omega))
    | (have hd : x.f.dir = false := (by assumption)
       have ht : x.f.typ ≠ [] := (by assumption)
       have ha : x.f.typ.all fieldB = true := (by assumption)
       by_cases hz : trim x.f.typ = x.f.typ
       · rw [rightF_yes (fun q g hq => hpair q g (by have := (List.getElem?_eq_some_iff.1 hq).1; rw [filesF_length] at this; omega) hq) (fun e => by have := congrArg List.length e; rw [List.length_nil] at this; omega) hall (df4 hd ht ha hz)]; exact decide_eq_true hz
       · rw [rightF_detail (df3 hd hz)]; exact decide_eq_false hz)))
 · try (exfalso; first | omega | (simp only [Bool.false_eq_true, reduceCtorEq] at hc8; done) | (refine absurd hc8 ?_; with_reducible assumption) | (refine absurd ?_ hc8; with_reducible assumption))
   all_goals (
 refine K_skip ?_
 refine N_then_k ?_
 refine K_seq ?_
 refine K_quiet hm hp (by kernel_rfl) ?_
 clear hp
 refine Wq_val (fun w hp => R_fieldAddr Tryz.underlying39 rfl sz9 rfl) rfl ?_
 refine Wq_val (fun w hp => R_load_s Tryz.underlying9 rfl rfl (by first | exact hp.cellF (by first | assumption | (repeat (first | exact List.mem_cons_self | apply List.mem_append_right | apply List.mem_cons_of_mem))) rfl | exact hp.cell_old0 ‹_› | (refine hp.cell_old0 ?_; assumption) | (apply hp.cellF (by assumption); rfl))) rfl ?_
 first
   | (refine Wq_val (fun w hp => R_sneq_f rfl rfl ?_) rfl ?_; (focus (first | rfl | assumption)))
   | (refine Wq_val (fun w hp => R_sneq_t rfl rfl ?_) rfl ?_; (focus (first | assumption | decide | exact List.cons_ne_nil _ _)))
   | (refine Wq_val (fun w hp => R_sneq rfl rfl) rfl ?_)
 refine Wq_val (fun w hp => R_move rfl) rfl ?_
 first
   | refine Wq_guard_lit_t rfl ?_
   | refine Wq_guard_lit_f rfl ?_
   | refine Wq_guard_lit_u rfl ?_
   | refine Wq_guard_split_d rfl rfl rfl (fun hg10 => ?_) (fun hg10 => ?_)
   | refine Wq_guard_split_n rfl rfl rfl (fun hg10 => ?_) (fun hg10 => ?_)
   | refine Wq_guard_split_nb rfl rfl rfl (fun hg10 => ?_) (fun hg10 => ?_)
   | refine Wq_guard_split rfl rfl rfl (fun hg10 => ?_) (fun hg10 => ?_)
 all_goals try (exfalso; first | omega | (simp only [Bool.false_eq_true, reduceCtorEq] at hg10; done) | (refine absurd hg10 ?_; with_reducible assumption) | (refine absurd ?_ hg10; with_reducible assumption))
 all_goals (
  first
    | (iterate 3 refine Wq_guard_no rfl rfl rfl ?_)
    | (iterate 3 refine Wq_guard_un rfl rfl ?_)
    | (refine Wq_guard_yes rfl ?_
       refine Wq_val (fun w hp => R_fieldAddr Tryz.underlying39 rfl sz9 rfl) rfl ?_
       refine Wq_guard_yes rfl ?_
       refine Wq_val (fun w hp => R_load_s Tryz.underlying9 rfl rfl (by first | exact hp.cellF (by first | assumption | (repeat (first | exact List.mem_cons_self | apply List.mem_append_right | apply List.mem_cons_of_mem))) rfl | exact hp.cell_old0 ‹_› | (refine hp.cell_old0 ?_; assumption) | (apply hp.cellF (by assumption); rfl))) rfl ?_
       refine Wq_guard_yes rfl ?_
       refine Wq_pcall rfl (all_spec x.f.typ _ fieldB (fun c => (field_spec c).toV) (by omega)) rfl ?_)
  first
    | (refine Wq_val (fun w hp => R_pick_t rfl rfl) rfl ?_)
    | (refine Wq_val (fun w hp => R_pick_f rfl rfl) rfl ?_)
    | (refine Wq_val (fun w hp => R_pick_b rfl rfl rfl) rfl ?_)
  refine Wq_val (fun w hp => R_move rfl) rfl ?_
  first
    | refine Wq_guard_lit_t rfl ?_
    | refine Wq_guard_lit_f rfl ?_
    | refine Wq_guard_lit_u rfl ?_
    | refine Wq_guard_split_d rfl rfl rfl (fun hg11 => ?_) (fun hg11 => ?_)
    | refine Wq_guard_split_n rfl rfl rfl (fun hg11 => ?_) (fun hg11 => ?_)
    | refine Wq_guard_split_nb rfl rfl rfl (fun hg11 => ?_) (fun hg11 => ?_)
    | refine Wq_guard_split rfl rfl rfl (fun hg11 => ?_) (fun hg11 => ?_)
  all_goals try (exfalso; first | omega | (simp only [Bool.false_eq_true, reduceCtorEq] at hg11; done) | (refine absurd hg11 ?_; with_reducible assumption) | (refine absurd ?_ hg11; with_reducible assumption))
  all_goals (
   first
     | (iterate 6 refine Wq_guard_no rfl rfl rfl ?_)
     | (iterate 6 refine Wq_guard_un rfl rfl ?_)
     | (refine Wq_guard_yes rfl ?_
        refine Wq_val (fun w hp => R_fieldAddr Tryz.underlying39 rfl sz9 rfl) rfl ?_
        refine Wq_guard_yes rfl ?_
        refine Wq_val (fun w hp => R_load_s Tryz.underlying9 rfl rfl (by first | exact hp.cellF (by first | assumption | (repeat (first | exact List.mem_cons_self | apply List.mem_append_right | apply List.mem_cons_of_mem))) rfl | exact hp.cell_old0 ‹_› | (refine hp.cell_old0 ?_; assumption) | (apply hp.cellF (by assumption); rfl))) rfl ?_
        refine Wq_guard_yes rfl ?_
        refine Wq_pcall rfl (trim_spec x.f.typ (by omega)) rfl ?_
        refine Wq_guard_yes rfl ?_
        refine Wq_val (fun w hp => R_fieldAddr Tryz.underlying39 rfl sz9 rfl) rfl ?_
        refine Wq_guard_yes rfl ?_
        refine Wq_val (fun w hp => R_load_s Tryz.underlying9 rfl rfl (by first | exact hp.cellF (by first | assumption | (repeat (first | exact List.mem_cons_self | apply List.mem_append_right | apply List.mem_cons_of_mem))) rfl | exact hp.cell_old0 ‹_› | (refine hp.cell_old0 ?_; assumption) | (apply hp.cellF (by assumption); rfl))) rfl ?_
        refine Wq_guard_yes rfl ?_
        first
          | (refine Wq_val (fun w hp => R_seql_t rfl rfl ?_) rfl ?_; (focus (first | rfl | assumption)))
          | (refine Wq_val (fun w hp => R_seql_f rfl rfl ?_) rfl ?_; (focus (first | assumption | decide | exact List.cons_ne_nil _ _)))
          | (refine Wq_val (fun w hp => R_seql rfl rfl) rfl ?_))
   first
     | (refine Wq_val (fun w hp => R_pick_t rfl rfl) rfl ?_)
     | (refine Wq_val (fun w hp => R_pick_f rfl rfl) rfl ?_)
     | (refine Wq_val (fun w hp => R_pick_b rfl rfl rfl) rfl ?_)
   refine Wq_val (fun w hp => R_assign rfl) rfl ?_
   refine Wq_end ?_
   intro w hp
   refine N_then_k ?_
   refine K_ret ?_
   refine N_done1 (.inr rfl) rfl rfl ?_
   refine ⟨_, rfl, congrArg Value.bool ?_, hp.nil⟩
   first
     | exact (rightF_clash hyf (pr1 (by omega) (by assumption))).symm
     | exact (rightF_clash hyf (pr2 (by assumption) (by assumption))).symm
     | exact (rightF_nil (zero_len (by assumption))).symm
     | exact (rightF_plain hall).symm
     | exact (rightF_detail (dt1 (by assumption) (by assumption))).symm
     | exact (rightF_detail (dt2 (by assumption) (by omega))).symm
     | exact (rightF_detail (df1 (by assumption) (by assumption))).symm
     | exact (rightF_detail (df2 (by assumption) (by assumption))).symm
     | exact (rightF_detail (df3 (by assumption) (by assumption))).symm
     | (have hd : x.f.dir = true := (by assumption)
        have ht : x.f.typ = [] := (by assumption)
        rcases Nat.eq_zero_or_pos x.f.body.length with hz | hz
        · rw [rightF_yes (fun q g hq => hpair q g (by have := (List.getElem?_eq_some_iff.1 hq).1; rw [filesF_length] at this; omega) hq) (fun e => by have := congrArg List.length e; rw [List.length_nil] at this; omega) hall (dt3 hd ht hz)]; exact decide_eq_true (by omega)
        · rw [rightF_detail (dt2 hd hz)]; exact decide_eq_false (by omega))
     | (have hd : x.f.dir = false := (by assumption)
        have ht : x.f.typ ≠ [] := (by assumption)
        have ha : x.f.typ.all fieldB = true := (by assumption)
        by_cases hz : trim x.f.typ = x.f.typ
        · rw [rightF_yes (fun q g hq => hpair q g (by have := (List.getElem?_eq_some_iff.1 hq).1; rw [filesF_length] at this; omega) hq) (fun e => by have := congrArg List.length e; rw [List.length_nil] at this; omega) hall (df4 hd ht ha hz)]; exact decide_eq_true hz
        · rw [rightF_detail (df3 hd hz)]; exact decide_eq_false hz)))))))))

end Go.Proofs.YticinfoljhlnbaaGreatDoor
