/-
  doorkeeperref12, walked: tokens, words, joined texts.
-/
import Derived.Test.YtjmfjdmpbkdceaaDoorRef
import Derived.Test.YtjmfjdmpbkdceaaDoorSxOpen
namespace Go.Proofs.YtjmfjdmpbkdceaaDoor
open Go.Sx Go.RowKit
set_option linter.unusedVariables false
set_option linter.unusedSimpArgs false
set_option maxRecDepth 100000

set_option maxHeartbeats 600000 in
theorem rtokens_spec (w0 : World) (L : List (List UInt8)) (A : Option Addr) (cL : Nat) (hrl : Rd w0 (.slice A L.length cL) L.length (L.map strV)) (hn : L.length ≤ 1000) (hL : ∀ v ∈ L, v.length ≤ 100000) : RetB Tryd.prog 11 [.slice A L.length cL] (fun v G => ∃ u, v = .tuple #[u, .bool (tokR (elemsL L)).2] ∧ OSs 9 u (tokR (elemsL L)).1 G) w0 := by
  have hel := elemsL_len L hL
  refine RetB.intro go11 Tryd.func11 rfl rfl fun hp => ?_
  refine (fun (hk : ∀ w, Hp w0 [] [] w → K _ _ _ _ _ w) => hk w0 hp) fun w hp => ?_
  refine K_seq ?_
  refine K_region ?_
  refine W_assign rfl rfl ?_
  refine W_assign rfl rfl ?_
  refine W_nil ?_
  refine N_then_k ?_
  refine K_seq ?_
  refine K_region ?_
  refine W_move rfl rfl ?_
  refine W_bcall hp rfl ((relements_spec w L A cL (hrl.keep hp) hn hL)) rfl ?_
  clear hp; intro v8 G8 w r8 hp
  obtain ⟨A8, c8, rfl⟩ := r8.form
  refine W_assign rfl rfl ?_
  refine W_nil ?_
  refine N_then_k ?_
  refine K_seq ?_
  refine K_region ?_
  refine W_assign rfl rfl ?_
  refine W_nil ?_
  refine N_then_k ?_
  refine K_seq ?_
  refine K_seq ?_
  refine K_region ?_
  refine W_assign rfl rfl ?_
  refine W_nil ?_
  refine N_then_k ?_
  refine K_block ?_
  refine K_loop (σ := Nat × Value × Heap) [2, 3, 5, 6, 9, 10, 11, 12, 13, 14, 15, 16, 17, 18, 19, 20, 21, 22, 23, 24, 25, 26, 27, 28]
      (fun q => [(6, .int .i64 q.1), (5, q.2.1)])
      (fun q w => OSs 9 q.2.1 (((elemsL L).take q.1).map lower) q.2.2 ∧ Hp w0 [] (q.2.2 ++ G8) w ∧ q.1 ≤ (elemsL L).length ∧ ((elemsL L).take q.1).all isToken = true)
      (fun q => (elemsL L).length - q.1) ((0, .slice none 0 0, [])) ?_ ?_ ?_
  · repeat' (first | exact sub_lst_nil (sub_nil _) | refine sub_lst rfl ?_ | (refine sub_lst_eq rfl ?_ ?_; · first | rfl | (simp; done) | (congr 1; omega)))
  · exact ⟨by simpa using OSs.nil, by simpa using hp, Nat.zero_le _, by simp⟩
  · intro ⟨i, va, Hs⟩ w hJ
    clear hp
    obtain ⟨hos, hp, hle, hall⟩ := hJ
    simp only at hos hp hle hall
    change K _ _ _ _ (.lst ([(6, .int .i64 i), (5, va)]) _) _
    obtain ⟨Av, cv, rfl⟩ := hos.form
    rcases Nat.lt_or_ge i (elemsL L).length with hlt | hge
    all_goals (
     refine K_seq ?_
     refine K_seq ?_
     refine K_region ?_
     refine W_move rfl rfl ?_
     refine W_move rfl rfl ?_
     refine W_len_sl Tryd.underlying22 rfl rfl ?_
     first
       | (refine W_lss_t rfl rfl ?_ rfl ?_; (focus (omega)))
       | (refine W_lss_f rfl rfl ?_ rfl ?_; (focus (omega)))
       | (refine W_lss rfl rfl rfl ?_)
     refine W_nil ?_
     refine N_then_k ?_
     first
       | refine K_cond_d rfl (fun hc1 => ?_) (fun hc1 => ?_)
       | refine K_cond_n rfl (fun hc1 => ?_) (fun hc1 => ?_)
       | refine K_cond_nb rfl (fun hc1 => ?_) (fun hc1 => ?_)
       | refine K_cond_t rfl (fun hc1 => ?_) (fun hc1 => ?_)
     · try (exfalso; first | omega | (simp only [Bool.false_eq_true, reduceCtorEq] at hc1; done) | (refine absurd hc1 ?_; with_reducible assumption) | (refine absurd ?_ hc1; with_reducible assumption))
       all_goals (
        refine K_skip ?_
        refine N_then_k ?_
        refine K_seq ?_
        refine K_block ?_
        refine K_seq ?_
        refine K_seq ?_
        obtain ⟨y, hy⟩ : ∃ x, (elemsL L)[i]? = some x := ⟨_, List.getElem?_eq_getElem hlt⟩
        have hys := strV_at hy
        obtain ⟨bb, oo, rfl⟩ := (OS.rdm (show OS _ _ _ _ _ _ from r8) (w := w) (fun p hq => hp.own p (by simp [hq]))).some (by intro e; rw [e] at hys; simp at hys)
        have hyl := elemsL_lens hL y (List.mem_of_getElem? hy)
        have htl : (((elemsL L).take i).map lower).length ≤ (elemsL L).length := by simp; omega
        refine K_region ?_
        refine W_move rfl rfl ?_
        refine W_move rfl rfl ?_
        refine W_indexAddr_sl Tryd.underlying22 sz9 rfl rfl ?_ ?_ rfl ?_
        (focus (omega))
        (focus (first | omega | (simp; done) | (simp; omega)))
        refine W_load_s Tryd.underlying9 rfl rfl (by exact (show w.cell? ⟨bb, oo + (i : Int).toNat * 1, none⟩ = some (strV y) by rw [show oo + (i : Int).toNat * 1 = oo + i by omega]; exact (OS.rdm (show OS _ _ _ _ _ _ from r8) (w := w) (fun p hq => hp.own p (by simp [hq]))).cell (strV_at hy))) rfl ?_
        refine W_pcall hp rfl (risToken_spec y (by omega)) rfl ?_
        clear hp; intro w hp
        first
          | (refine W_not_t rfl rfl ?_)
          | (refine W_not_f rfl rfl ?_)
          | (refine W_not rfl rfl ?_)
        refine W_nil ?_
        refine N_then_k ?_
        first
          | refine K_cond_d rfl (fun hc2 => ?_) (fun hc2 => ?_)
          | refine K_cond_n rfl (fun hc2 => ?_) (fun hc2 => ?_)
          | refine K_cond_nb rfl (fun hc2 => ?_) (fun hc2 => ?_)
          | refine K_cond_t rfl (fun hc2 => ?_) (fun hc2 => ?_)
        · try (exfalso; first | omega | (simp only [Bool.false_eq_true, reduceCtorEq] at hc2; done) | (refine absurd hc2 ?_; with_reducible assumption) | (refine absurd ?_ hc2; with_reducible assumption))
          all_goals (
           refine K_seq ?_
           refine K_region ?_
           refine W_assign rfl rfl ?_
           refine W_assign rfl rfl ?_
           refine W_nil ?_
           refine N_then_k ?_
           refine K_ret ?_
           refine N_then_ret ?_
           refine N_block_ret ?_
           refine N_then_ret ?_
           refine N_then_ret ?_
           refine N_block_ret ?_
           refine N_then_ret ?_
           refine N_done2 (.inr rfl) rfl rfl rfl ?_
           first
             | exact ⟨_, rfl, [], hp.nil, _, by unfold tokR; rw [if_neg (by rw [all_no hy (by assumption)]; simp)], by unfold tokR; rw [if_neg (by rw [all_no hy (by assumption)]; simp)]; exact OSs.nil⟩
             | (rw [List.take_of_length_le hge] at hos hall
                exact ⟨_, rfl, Hs, hp.drop (List.sublist_append_left _ _), _, by unfold tokR; rw [if_pos hall, List.take_of_length_le hge]; rw [decide_eq_decide.2 (show ((0 : Int) < ((elemsL L).length : Int)) ↔ 0 < (elemsL L).length by omega)], by unfold tokR; rw [if_pos hall]; exact hos⟩))
        · try (exfalso; first | omega | (simp only [Bool.false_eq_true, reduceCtorEq] at hc2; done) | (refine absurd hc2 ?_; with_reducible assumption) | (refine absurd ?_ hc2; with_reducible assumption))
          all_goals (
           refine K_skip ?_
           refine N_then_k ?_
           refine K_region ?_
           refine W_move rfl rfl ?_
           refine W_move rfl rfl ?_
           refine W_move rfl rfl ?_
           refine W_indexAddr_sl Tryd.underlying22 sz9 rfl rfl ?_ ?_ rfl ?_
           (focus (omega))
           (focus (first | omega | (simp; done) | (simp; omega)))
           refine W_load_s Tryd.underlying9 rfl rfl (by exact (show w.cell? ⟨bb, oo + (i : Int).toNat * 1, none⟩ = some (strV y) by rw [show oo + (i : Int).toNat * 1 = oo + i by omega]; exact (OS.rdm (show OS _ _ _ _ _ _ from r8) (w := w) (fun p hq => hp.own p (by simp [hq]))).cell (strV_at hy))) rfl ?_
           refine W_pcall hp rfl (rlower_spec y (by omega)) rfl ?_
           clear hp; intro w hp
           refine W_bslice1 hp Tryd.underlying22 sz9 zv9 rfl  rfl  (fun v0 => [v0]) rfl rfl rfl ?_
           clear hp; intro b27 w hp
           skip
           refine W_append_sl (A := [_]) (B := G8) _ rfl hp rfl Tryd.underlying22 sz9 pb9 zv9 rfl rfl rfl rfl hos (Rd.own hp (by first | exact List.mem_cons_self | exact .tail _ (.head _) | exact .tail _ (.tail _ (.head _)) | exact .tail _ (.tail _ (.tail _ (.head _))) | exact .tail _ (.tail _ (.tail _ (.tail _ (.head _)))) | exact .tail _ (.tail _ (.tail _ (.tail _ (.tail _ (.head _))))) | exact List.mem_append_right _ (.head _) | exact List.mem_append_right _ (.tail _ (.head _)) | exact List.mem_append_right _ (.tail _ (.tail _ (.head _))) | exact .tail _ (List.mem_append_right _ (.head _)) | exact .tail _ (List.mem_append_right _ (.tail _ (.head _))) | assumption | (repeat (first | exact List.mem_cons_self | apply List.mem_append_right | apply List.mem_cons_of_mem))) (List.prefix_refl _)) ?_ ?_ ?_ ?_ rfl ?_
           · rfl
           · first | (simp [Value.oneCell']; done) | (simp [Value.oneCell', strV]; done)
           · (simp only [maxLen]; omega)
           · omega
           clear hp; intro va28 Hs w hos hp
           replace hos := OSs.app (b := [lower y]) rfl rfl hos
           obtain ⟨Aw, cw, rfl⟩ := hos.form
           refine W_assign rfl rfl ?_
           refine W_nil ?_
           refine N_block_normal ?_
           refine N_then_k ?_
           refine K_region ?_
           refine W_move rfl rfl ?_
           first
             | (refine W_add rfl rfl (wr_i64 ?_) rfl ?_; (focus (omega)))
             | (refine W_add rfl rfl rfl rfl ?_)
           refine W_assign rfl rfl ?_
           refine W_nil ?_
           refine N_again (i + 1, _, Hs) (sub_end ?_ ?_) ⟨by show OSs _ _ (((elemsL L).take (i + 1)).map lower) _; rw [map_next hy]; exact hos, hp.drop (List.sublist_cons_self _ _), hlt, all_next hy (by assumption) hall⟩ ?_
           · repeat' (first | exact sub_lst_nil (sub_nil _) | refine sub_lst rfl ?_ | (refine sub_lst_eq rfl ?_ ?_; · first | rfl | (simp; done) | (congr 1; omega)))
           · repeat' (first | exact sub_refl _ | exact sub_strip _ _ | refine sub_s_cons rfl ?_ | refine sub_s_lst rfl ?_ | refine sub_s_strip rfl ?_)
           · show _ < _; simp only; omega))
     · try (exfalso; first | omega | (simp only [Bool.false_eq_true, reduceCtorEq] at hc1; done) | (refine absurd hc1 ?_; with_reducible assumption) | (refine absurd ?_ hc1; with_reducible assumption))
       all_goals (
        refine K_exit ?_
        refine N_then_exit ?_
        refine N_then_exit ?_
        refine N_block_exit ?_
        refine N_then_k ?_
        refine K_seq ?_
        refine K_region ?_
        refine W_move rfl rfl ?_
        refine W_move rfl rfl ?_
        refine W_len_sl Tryd.underlying22 rfl rfl ?_
        first
          | (refine W_gtr_t rfl rfl ?_ rfl ?_; (focus (omega)))
          | (refine W_gtr_f rfl rfl ?_ rfl ?_; (focus (omega)))
          | (refine W_gtr rfl rfl rfl ?_)
        refine W_assign rfl rfl ?_
        refine W_assign rfl rfl ?_
        refine W_nil ?_
        refine N_then_k ?_
        refine K_ret ?_
        refine N_done2 (.inr rfl) rfl rfl rfl ?_
        first
          | exact ⟨_, rfl, [], hp.nil, _, by unfold tokR; rw [if_neg (by rw [all_no hy (by assumption)]; simp)], by unfold tokR; rw [if_neg (by rw [all_no hy (by assumption)]; simp)]; exact OSs.nil⟩
          | (rw [List.take_of_length_le hge] at hos hall
             exact ⟨_, rfl, Hs, hp.drop (List.sublist_append_left _ _), _, by unfold tokR; rw [if_pos hall, List.take_of_length_le hge]; rw [decide_eq_decide.2 (show ((0 : Int) < ((elemsL L).length : Int)) ↔ 0 < (elemsL L).length by omega)], by unfold tokR; rw [if_pos hall]; exact hos⟩)))

theorem rhas_spec (w0 : World) (L : List (List UInt8)) (A : Option Addr) (cL : Nat) (hrl : Rd w0 (.slice A L.length cL) L.length (L.map strV)) (hn : L.length ≤ 1000) (hL : ∀ v ∈ L, v.length ≤ 100000) (wd : List UInt8) (hwd : wd.length ≤ 100000) : PureAt Tryd.prog 16 [.string ⟨wd.toArray⟩, .slice A L.length cL] (.bool (hasL wd (elemsL L))) w0 := by
  have hel := elemsL_len L hL
  refine PureAt.intro go16 Tryd.func16 rfl rfl fun hp => ?_
  refine (fun (hk : ∀ w, Hp w0 [] [] w → K _ _ _ _ _ w) => hk w0 hp) fun w hp => ?_
  refine K_seq ?_
  refine K_region ?_
  refine W_assign rfl rfl ?_
  refine W_nil ?_
  refine N_then_k ?_
  refine K_seq ?_
  refine K_region ?_
  refine W_move rfl rfl ?_
  refine W_bcall hp rfl ((relements_spec w L A cL (hrl.keep hp) hn hL)) rfl ?_
  clear hp; intro v8 G8 w r8 hp
  obtain ⟨A8, c8, rfl⟩ := r8.form
  refine W_assign rfl rfl ?_
  refine W_nil ?_
  refine N_then_k ?_
  refine K_seq ?_
  refine K_seq ?_
  refine K_region ?_
  refine W_assign rfl rfl ?_
  refine W_nil ?_
  refine N_then_k ?_
  refine K_block ?_
  refine K_loop (σ := Nat) [4, 6, 9, 10, 11, 12, 13, 14, 15, 16, 17, 18, 19, 20, 21, 22]
      (fun i => [(6, .int .i64 i)])
      (fun i w => Hp w0 [] G8 w ∧ i ≤ (elemsL L).length ∧ hasL wd ((elemsL L).take i) = false)
      (fun i => (elemsL L).length - i) (0) ?_ ?_ ?_
  · repeat' (first | exact sub_lst_nil (sub_nil _) | refine sub_lst rfl ?_ | (refine sub_lst_eq rfl ?_ ?_; · first | rfl | (simp; done) | (congr 1; omega)))
  · exact ⟨by simpa using hp, Nat.zero_le _, rfl⟩
  · intro i w hJ
    clear hp
    obtain ⟨hp, hle, hno⟩ := hJ
    rcases Nat.lt_or_ge i (elemsL L).length with hlt | hge
    all_goals (
     refine K_seq ?_
     refine K_seq ?_
     refine K_region ?_
     refine W_move rfl rfl ?_
     refine W_move rfl rfl ?_
     refine W_len_sl Tryd.underlying22 rfl rfl ?_
     first
       | (refine W_lss_t rfl rfl ?_ rfl ?_; (focus (omega)))
       | (refine W_lss_f rfl rfl ?_ rfl ?_; (focus (omega)))
       | (refine W_lss rfl rfl rfl ?_)
     refine W_nil ?_
     refine N_then_k ?_
     first
       | refine K_cond_d rfl (fun hc1 => ?_) (fun hc1 => ?_)
       | refine K_cond_n rfl (fun hc1 => ?_) (fun hc1 => ?_)
       | refine K_cond_nb rfl (fun hc1 => ?_) (fun hc1 => ?_)
       | refine K_cond_t rfl (fun hc1 => ?_) (fun hc1 => ?_)
     · try (exfalso; first | omega | (simp only [Bool.false_eq_true, reduceCtorEq] at hc1; done) | (refine absurd hc1 ?_; with_reducible assumption) | (refine absurd ?_ hc1; with_reducible assumption))
       all_goals (
        refine K_skip ?_
        refine N_then_k ?_
        refine K_seq ?_
        refine K_block ?_
        refine K_seq ?_
        obtain ⟨y, hy⟩ : ∃ x, (elemsL L)[i]? = some x := ⟨_, List.getElem?_eq_getElem hlt⟩
        have hys := strV_at hy
        obtain ⟨bb, oo, rfl⟩ := (OS.rdm (show OS _ _ _ _ _ _ from r8) (w := w) (fun p hq => hp.own p (by simp [hq]))).some (by intro e; rw [e] at hys; simp at hys)
        have hyl := elemsL_lens hL y (List.mem_of_getElem? hy)
        have htl : (((elemsL L).take i).map lower).length ≤ (elemsL L).length := by simp; omega
        refine K_region ?_
        refine W_move rfl rfl ?_
        refine W_move rfl rfl ?_
        refine W_indexAddr_sl Tryd.underlying22 sz9 rfl rfl ?_ ?_ rfl ?_
        (focus (omega))
        (focus (first | omega | (simp; done) | (simp; omega)))
        refine W_load_s Tryd.underlying9 rfl rfl (by exact (show w.cell? ⟨bb, oo + (i : Int).toNat * 1, none⟩ = some (strV y) by rw [show oo + (i : Int).toNat * 1 = oo + i by omega]; exact (OS.rdm (show OS _ _ _ _ _ _ from r8) (w := w) (fun p hq => hp.own p (by simp [hq]))).cell (strV_at hy))) rfl ?_
        refine W_pcall hp rfl (rlower_spec y (by omega)) rfl ?_
        clear hp; intro w hp
        refine W_move rfl rfl ?_
        refine W_pcall hp rfl (rlower_spec wd (by omega)) rfl ?_
        clear hp; intro w hp
        first
          | (refine W_seql_t rfl rfl ?_ rfl ?_; (focus (first | rfl | assumption)))
          | (refine W_seql_f rfl rfl ?_ rfl ?_; (focus (first | assumption | decide | exact List.cons_ne_nil _ _)))
          | (refine W_seql rfl rfl rfl ?_)
        refine W_nil ?_
        refine N_then_k ?_
        first
          | refine K_cond_d rfl (fun hc2 => ?_) (fun hc2 => ?_)
          | refine K_cond_n rfl (fun hc2 => ?_) (fun hc2 => ?_)
          | refine K_cond_nb rfl (fun hc2 => ?_) (fun hc2 => ?_)
          | refine K_cond_t rfl (fun hc2 => ?_) (fun hc2 => ?_)
        · try (exfalso; first | omega | (simp only [Bool.false_eq_true, reduceCtorEq] at hc2; done) | (refine absurd hc2 ?_; with_reducible assumption) | (refine absurd ?_ hc2; with_reducible assumption))
          all_goals (
           refine K_seq ?_
           refine K_region ?_
           refine W_assign rfl rfl ?_
           refine W_nil ?_
           refine N_then_k ?_
           refine K_ret ?_
           refine N_block_ret ?_
           refine N_then_ret ?_
           refine N_then_ret ?_
           refine N_block_ret ?_
           refine N_then_ret ?_
           refine N_done1 (.inr rfl) rfl rfl ?_
           refine ⟨_, rfl, congrArg Value.bool ?_, hp.nil⟩
           first
             | exact (any_yes (p := fun e => decide (lower e = lower wd)) hy (decide_eq_true (by assumption))).symm
             | (rw [List.take_of_length_le hge] at hno; exact hno.symm))
        · try (exfalso; first | omega | (simp only [Bool.false_eq_true, reduceCtorEq] at hc2; done) | (refine absurd hc2 ?_; with_reducible assumption) | (refine absurd ?_ hc2; with_reducible assumption))
          all_goals (
           refine K_skip ?_
           refine N_block_normal ?_
           refine N_then_k ?_
           refine K_region ?_
           refine W_move rfl rfl ?_
           first
             | (refine W_add rfl rfl (wr_i64 ?_) rfl ?_; (focus (omega)))
             | (refine W_add rfl rfl rfl rfl ?_)
           refine W_assign rfl rfl ?_
           refine W_nil ?_
           refine N_again (i + 1) (sub_end ?_ ?_) ?_ ?_
           · repeat' (first | exact sub_lst_nil (sub_nil _) | refine sub_lst rfl ?_ | (refine sub_lst_eq rfl ?_ ?_; · first | rfl | (simp; done) | (congr 1; omega)))
           · repeat' (first | exact sub_refl _ | exact sub_strip _ _ | refine sub_s_cons rfl ?_ | refine sub_s_lst rfl ?_ | refine sub_s_strip rfl ?_)
           · exact ⟨hp, hlt, any_next hy (decide_eq_false (by assumption)) hno⟩
           · omega))
     · try (exfalso; first | omega | (simp only [Bool.false_eq_true, reduceCtorEq] at hc1; done) | (refine absurd hc1 ?_; with_reducible assumption) | (refine absurd ?_ hc1; with_reducible assumption))
       all_goals (
        refine K_exit ?_
        refine N_then_exit ?_
        refine N_then_exit ?_
        refine N_block_exit ?_
        refine N_then_k ?_
        refine K_seq ?_
        refine K_region ?_
        refine W_assign rfl rfl ?_
        refine W_nil ?_
        refine N_then_k ?_
        refine K_ret ?_
        refine N_done1 (.inr rfl) rfl rfl ?_
        refine ⟨_, rfl, congrArg Value.bool ?_, hp.nil⟩
        first
          | exact (any_yes (p := fun e => decide (lower e = lower wd)) hy (decide_eq_true (by assumption))).symm
          | (rw [List.take_of_length_le hge] at hno; exact hno.symm)))

theorem joinB_next {sep y : List UInt8} {L : List (List UInt8)} {k : Nat} (h : L[k]? = some y) : joinB sep (L.take (k + 1)) = joinB sep (L.take k) ++ (if 0 < k then sep else []) ++ y := by
  cases k with
  | zero => rw [joinB_one h]; simp [joinB]
  | succ j => rw [joinB_more h, if_pos (by omega)]

theorem rjoin_spec (w0 : World) (L : List (List UInt8)) (A : Option Addr) (cL : Nat) (hrl : Rd w0 (.slice A L.length cL) L.length (L.map strV)) (hn : L.length ≤ 1000) (hL : ∀ v ∈ L, v.length ≤ 100000) (hj : (joinB [44, 32] L).length ≤ 100000000) : PureAt Tryd.prog 18 [.slice A L.length cL] (.string ⟨(joinB [44, 32] L).toArray⟩) w0 := by
  refine PureAt.intro go18 Tryd.func18 rfl rfl fun hp => ?_
  refine (fun (hk : ∀ w, Hp w0 [] [] w → K _ _ _ _ _ w) => hk w0 hp) fun w hp => ?_
  refine K_seq ?_
  refine K_region ?_
  refine W_assign rfl rfl ?_
  refine W_nil ?_
  refine N_then_k ?_
  refine K_seq ?_
  refine K_region ?_
  refine W_assign rfl rfl ?_
  refine W_nil ?_
  refine N_then_k ?_
  refine K_seq ?_
  refine K_seq ?_
  refine K_region ?_
  refine W_assign rfl rfl ?_
  refine W_nil ?_
  refine N_then_k ?_
  refine K_block ?_
  refine K_loop (σ := Nat) [3, 4, 5, 6, 7, 8, 9, 10, 11, 12, 13, 14, 15, 16, 17, 18, 19, 20]
      (fun k => [(4, .int .i64 k), (3, .string ⟨(joinB [44, 32] (L.take k)).toArray⟩)])
      (fun k w => Hp w0 [] [] w ∧ k ≤ L.length)
      (fun k => L.length - k) (0) ?_ ?_ ?_
  · repeat' (first | exact sub_lst_nil (sub_nil _) | refine sub_lst rfl ?_ | (refine sub_lst_eq rfl ?_ ?_; · first | rfl | (simp; done) | (congr 1; omega)))
  · exact ⟨hp, Nat.zero_le _⟩
  · intro k w hJ
    clear hp
    obtain ⟨hp, hle⟩ := hJ
    rcases Nat.lt_or_ge k L.length with hlt | hge
    all_goals (
     refine K_seq ?_
     refine K_seq ?_
     refine K_region ?_
     refine W_move rfl rfl ?_
     refine W_move rfl rfl ?_
     refine W_len_sl Tryd.underlying22 rfl rfl ?_
     first
       | (refine W_lss_t rfl rfl ?_ rfl ?_; (focus (omega)))
       | (refine W_lss_f rfl rfl ?_ rfl ?_; (focus (omega)))
       | (refine W_lss rfl rfl rfl ?_)
     refine W_nil ?_
     refine N_then_k ?_
     first
       | refine K_cond_d rfl (fun hc1 => ?_) (fun hc1 => ?_)
       | refine K_cond_n rfl (fun hc1 => ?_) (fun hc1 => ?_)
       | refine K_cond_nb rfl (fun hc1 => ?_) (fun hc1 => ?_)
       | refine K_cond_t rfl (fun hc1 => ?_) (fun hc1 => ?_)
     · try (exfalso; first | omega | (simp only [Bool.false_eq_true, reduceCtorEq] at hc1; done) | (refine absurd hc1 ?_; with_reducible assumption) | (refine absurd ?_ hc1; with_reducible assumption))
       all_goals (
        refine K_skip ?_
        refine N_then_k ?_
        refine K_seq ?_
        refine K_block ?_
        refine K_seq ?_
        refine K_seq ?_
        refine K_region ?_
        obtain ⟨v, hv⟩ : ∃ x, L[k]? = some x := ⟨_, List.getElem?_eq_getElem hlt⟩
        have hvs := strV_at hv
        obtain ⟨bb, oo, rfl⟩ := hrl.some (by intro e; rw [e] at hvs; simp at hvs)
        have hcx := hrl.cell hvs
        have hjl := joinB_le [44, 32] L k
        have hjn := joinB_next (sep := [44, 32]) hv
        have hvl := hL v (List.mem_of_getElem? hv)
        refine W_move rfl rfl ?_
        first
          | (refine W_gtr_t rfl rfl ?_ rfl ?_; (focus (omega)))
          | (refine W_gtr_f rfl rfl ?_ rfl ?_; (focus (omega)))
          | (refine W_gtr rfl rfl rfl ?_)
        refine W_nil ?_
        refine N_then_k ?_
        first
          | refine K_cond_d rfl (fun hc2 => ?_) (fun hc2 => ?_)
          | refine K_cond_n rfl (fun hc2 => ?_) (fun hc2 => ?_)
          | refine K_cond_nb rfl (fun hc2 => ?_) (fun hc2 => ?_)
          | refine K_cond_t rfl (fun hc2 => ?_) (fun hc2 => ?_)
        · try (exfalso; first | omega | (simp only [Bool.false_eq_true, reduceCtorEq] at hc2; done) | (refine absurd hc2 ?_; with_reducible assumption) | (refine absurd ?_ hc2; with_reducible assumption))
          all_goals (
           refine K_region ?_
           refine W_move rfl rfl ?_
           refine W_sadd rfl rfl ?_ rfl ?_
           (focus (first | omega | (simp only [List.length_append, List.length_cons, List.length_nil, List.length_drop, List.length_take] at *; omega) | (simp; omega)))
           refine W_assign rfl rfl ?_
           refine W_nil ?_
           refine N_then_k ?_
           refine K_region ?_
           refine W_move rfl rfl ?_
           refine W_move rfl rfl ?_
           refine W_move rfl rfl ?_
           refine W_indexAddr_sl Tryd.underlying22 sz9 rfl rfl ?_ ?_ rfl ?_
           (focus (omega))
           (focus (first | omega | (simp; done) | (simp; omega)))
           refine W_load_s Tryd.underlying9 rfl rfl (by exact hp.cell_old0 (by simpa using hcx)) rfl ?_
           refine W_sadd rfl rfl ?_ rfl ?_
           (focus (first | omega | (simp only [List.length_append, List.length_cons, List.length_nil, List.length_drop, List.length_take] at *; omega) | (simp; omega)))
           refine W_assign rfl rfl ?_
           refine W_nil ?_
           refine N_block_normal ?_
           refine N_then_k ?_
           refine K_region ?_
           refine W_move rfl rfl ?_
           first
             | (refine W_add rfl rfl (wr_i64 ?_) rfl ?_; (focus (omega)))
             | (refine W_add rfl rfl rfl rfl ?_)
           refine W_assign rfl rfl ?_
           refine W_nil ?_
           first
             | (rw [if_pos (by omega)] at hjn
                refine N_again (k + 1) (sub_end ?_ ?_) ⟨hp, hlt⟩ ?_
                · repeat' (first | exact sub_lst_nil (sub_nil _) | refine sub_lst rfl ?_ | (refine sub_lst_eq rfl ?_ ?_; · first | rfl | exact congrArg strV hjn.symm))
                · repeat' (first | exact sub_refl _ | exact sub_strip _ _ | refine sub_s_cons rfl ?_ | refine sub_s_lst rfl ?_ | refine sub_s_strip rfl ?_)
                · omega)
             | (rw [if_neg (by omega), List.append_nil] at hjn
                refine N_again (k + 1) (sub_end ?_ ?_) ⟨hp, hlt⟩ ?_
                · repeat' (first | exact sub_lst_nil (sub_nil _) | refine sub_lst rfl ?_ | (refine sub_lst_eq rfl ?_ ?_; · first | rfl | exact congrArg strV hjn.symm))
                · repeat' (first | exact sub_refl _ | exact sub_strip _ _ | refine sub_s_cons rfl ?_ | refine sub_s_lst rfl ?_ | refine sub_s_strip rfl ?_)
                · omega))
        · try (exfalso; first | omega | (simp only [Bool.false_eq_true, reduceCtorEq] at hc2; done) | (refine absurd hc2 ?_; with_reducible assumption) | (refine absurd ?_ hc2; with_reducible assumption))
          all_goals (
           refine K_skip ?_
           refine N_then_k ?_
           refine K_region ?_
           refine W_move rfl rfl ?_
           refine W_move rfl rfl ?_
           refine W_move rfl rfl ?_
           refine W_indexAddr_sl Tryd.underlying22 sz9 rfl rfl ?_ ?_ rfl ?_
           (focus (omega))
           (focus (first | omega | (simp; done) | (simp; omega)))
           refine W_load_s Tryd.underlying9 rfl rfl (by exact hp.cell_old0 (by simpa using hcx)) rfl ?_
           refine W_sadd rfl rfl ?_ rfl ?_
           (focus (first | omega | (simp only [List.length_append, List.length_cons, List.length_nil, List.length_drop, List.length_take] at *; omega) | (simp; omega)))
           refine W_assign rfl rfl ?_
           refine W_nil ?_
           refine N_block_normal ?_
           refine N_then_k ?_
           refine K_region ?_
           refine W_move rfl rfl ?_
           first
             | (refine W_add rfl rfl (wr_i64 ?_) rfl ?_; (focus (omega)))
             | (refine W_add rfl rfl rfl rfl ?_)
           refine W_assign rfl rfl ?_
           refine W_nil ?_
           first
             | (rw [if_pos (by omega)] at hjn
                refine N_again (k + 1) (sub_end ?_ ?_) ⟨hp, hlt⟩ ?_
                · repeat' (first | exact sub_lst_nil (sub_nil _) | refine sub_lst rfl ?_ | (refine sub_lst_eq rfl ?_ ?_; · first | rfl | exact congrArg strV hjn.symm))
                · repeat' (first | exact sub_refl _ | exact sub_strip _ _ | refine sub_s_cons rfl ?_ | refine sub_s_lst rfl ?_ | refine sub_s_strip rfl ?_)
                · omega)
             | (rw [if_neg (by omega), List.append_nil] at hjn
                refine N_again (k + 1) (sub_end ?_ ?_) ⟨hp, hlt⟩ ?_
                · repeat' (first | exact sub_lst_nil (sub_nil _) | refine sub_lst rfl ?_ | (refine sub_lst_eq rfl ?_ ?_; · first | rfl | exact congrArg strV hjn.symm))
                · repeat' (first | exact sub_refl _ | exact sub_strip _ _ | refine sub_s_cons rfl ?_ | refine sub_s_lst rfl ?_ | refine sub_s_strip rfl ?_)
                · omega)))
     · try (exfalso; first | omega | (simp only [Bool.false_eq_true, reduceCtorEq] at hc1; done) | (refine absurd hc1 ?_; with_reducible assumption) | (refine absurd ?_ hc1; with_reducible assumption))
       all_goals (
        refine K_exit ?_
        refine N_then_exit ?_
        refine N_then_exit ?_
        refine N_block_exit ?_
        refine N_then_k ?_
        refine K_seq ?_
        refine K_region ?_
        refine W_move rfl rfl ?_
        refine W_assign rfl rfl ?_
        refine W_nil ?_
        refine N_then_k ?_
        refine K_ret ?_
        refine N_done1 (.inr rfl) rfl rfl ?_
        refine ⟨_, rfl, ?_, hp.nil⟩
        rw [List.take_of_length_le hge]))

theorem texts_spec (w0 : World) (a b : List (List UInt8)) (Aa Ab : Option Addr) (ca cb : Nat) (hra : Rd w0 (.slice Aa a.length ca) a.length (a.map strV)) (hrb : Rd w0 (.slice Ab b.length cb) b.length (b.map strV)) (hn : a.length ≤ 100000) : PureAt Tryd.prog 12 [.slice Aa a.length ca, .slice Ab b.length cb] (.bool (decide (a = b))) w0 := by
  refine PureAt.intro go12 Tryd.func12 rfl rfl fun hp => ?_
  refine (fun (hk : ∀ w, Hp w0 [] [] w → K _ _ _ _ _ w) => hk w0 hp) fun w hp => ?_
  refine K_seq ?_
  refine K_region ?_
  refine W_assign rfl rfl ?_
  refine W_nil ?_
  refine N_then_k ?_
  refine K_seq ?_
  refine K_seq ?_
  refine K_region ?_
  refine W_move rfl rfl ?_
  refine W_len_sl Tryd.underlying22 rfl rfl ?_
  refine W_move rfl rfl ?_
  refine W_len_sl Tryd.underlying22 rfl rfl ?_
  first
    | (refine W_neq_t rfl rfl ?_ rfl ?_; (focus (omega)))
    | (refine W_neq_f rfl rfl ?_ rfl ?_; (focus (omega)))
    | (refine W_neq rfl rfl rfl ?_)
  refine W_nil ?_
  refine N_then_k ?_
  first
    | refine K_cond_d rfl (fun hc1 => ?_) (fun hc1 => ?_)
    | refine K_cond_n rfl (fun hc1 => ?_) (fun hc1 => ?_)
    | refine K_cond_nb rfl (fun hc1 => ?_) (fun hc1 => ?_)
    | refine K_cond_t rfl (fun hc1 => ?_) (fun hc1 => ?_)
  · try (exfalso; first | omega | (simp only [Bool.false_eq_true, reduceCtorEq] at hc1; done) | (refine absurd hc1 ?_; with_reducible assumption) | (refine absurd ?_ hc1; with_reducible assumption))
    all_goals (
     refine K_seq ?_
     refine K_region ?_
     refine W_assign rfl rfl ?_
     refine W_nil ?_
     refine N_then_k ?_
     refine K_ret ?_
     refine N_then_ret ?_
     refine N_done1 (.inr rfl) rfl rfl ?_
     refine ⟨_, rfl, congrArg Value.bool ?_, hp.nil⟩
     first
       | (refine (decide_eq_false fun e => ?_).symm; subst e; omega)
       | (refine (decide_eq_false fun e => ?_).symm; subst e; rw [hx] at hy; have e2 := Option.some.inj hy; contradiction)
       | (refine (decide_eq_true ?_).symm; rw [List.take_of_length_le hge, List.take_of_length_le (by omega)] at hab; exact hab))
  · try (exfalso; first | omega | (simp only [Bool.false_eq_true, reduceCtorEq] at hc1; done) | (refine absurd hc1 ?_; with_reducible assumption) | (refine absurd ?_ hc1; with_reducible assumption))
    all_goals (
     refine K_skip ?_
     refine N_then_k ?_
     refine K_seq ?_
     refine K_seq ?_
     refine K_region ?_
     refine W_assign rfl rfl ?_
     refine W_nil ?_
     refine N_then_k ?_
     refine K_block ?_
     refine K_loop (σ := Nat) [4, 5, 11, 12, 13, 14, 15, 16, 17, 18, 19, 20, 21, 22, 23, 24, 25]
         (fun k => [(5, .int .i64 k)])
         (fun k w => Hp w0 [] [] w ∧ k ≤ a.length ∧ a.take k = b.take k)
         (fun k => a.length - k) (0) ?_ ?_ ?_
     · repeat' (first | exact sub_lst_nil (sub_nil _) | refine sub_lst rfl ?_ | (refine sub_lst_eq rfl ?_ ?_; · first | rfl | (simp; done) | (congr 1; omega)))
     · exact ⟨hp, Nat.zero_le _, rfl⟩
     · intro k w hJ
       clear hp
       obtain ⟨hp, hle, hab⟩ := hJ
       rcases Nat.lt_or_ge k a.length with hlt | hge
       all_goals (
        refine K_seq ?_
        refine K_seq ?_
        refine K_region ?_
        refine W_move rfl rfl ?_
        refine W_move rfl rfl ?_
        refine W_len_sl Tryd.underlying22 rfl rfl ?_
        first
          | (refine W_lss_t rfl rfl ?_ rfl ?_; (focus (omega)))
          | (refine W_lss_f rfl rfl ?_ rfl ?_; (focus (omega)))
          | (refine W_lss rfl rfl rfl ?_)
        refine W_nil ?_
        refine N_then_k ?_
        first
          | refine K_cond_d rfl (fun hc2 => ?_) (fun hc2 => ?_)
          | refine K_cond_n rfl (fun hc2 => ?_) (fun hc2 => ?_)
          | refine K_cond_nb rfl (fun hc2 => ?_) (fun hc2 => ?_)
          | refine K_cond_t rfl (fun hc2 => ?_) (fun hc2 => ?_)
        · try (exfalso; first | omega | (simp only [Bool.false_eq_true, reduceCtorEq] at hc2; done) | (refine absurd hc2 ?_; with_reducible assumption) | (refine absurd ?_ hc2; with_reducible assumption))
          all_goals (
           refine K_skip ?_
           refine N_then_k ?_
           refine K_seq ?_
           refine K_block ?_
           refine K_seq ?_
           obtain ⟨x, hx⟩ : ∃ x, a[k]? = some x := ⟨_, List.getElem?_eq_getElem hlt⟩
           obtain ⟨y, hy⟩ : ∃ y, b[k]? = some y := ⟨_, List.getElem?_eq_getElem (by omega)⟩
           have hxs := strV_at hx
           have hys := strV_at hy
           obtain ⟨ba, oa, rfl⟩ := hra.some (by intro e; rw [e] at hxs; simp at hxs)
           obtain ⟨bb, ob, rfl⟩ := hrb.some (by intro e; rw [e] at hys; simp at hys)
           have hcx := hra.cell hxs
           have hcy := hrb.cell hys
           refine K_quiet hm hp (by kernel_rfl) ?_
           clear hp
           refine Wq_val (fun w hp => R_move rfl) rfl ?_
           refine Wq_val (fun w hp => R_move rfl) rfl ?_
           refine Wq_val (fun w hp => R_indexAddr_sl Tryd.underlying22 sz9 rfl rfl ?_ ?_) rfl ?_
           (focus (omega))
           (focus (first | omega | (simp; done) | (simp; omega)))
           refine Wq_val (fun w hp => R_load_s Tryd.underlying9 rfl rfl (by exact hp.cell_old0 (by simpa using hcx))) rfl ?_
           refine Wq_val (fun w hp => R_move rfl) rfl ?_
           refine Wq_val (fun w hp => R_move rfl) rfl ?_
           refine Wq_val (fun w hp => R_indexAddr_sl Tryd.underlying22 sz9 rfl rfl ?_ ?_) rfl ?_
           (focus (omega))
           (focus (first | omega | (simp; done) | (simp; omega)))
           refine Wq_val (fun w hp => R_load_s Tryd.underlying9 rfl rfl (by exact hp.cell_old0 (by simpa using hcy))) rfl ?_
           first
             | (refine Wq_val (fun w hp => R_sneq_f rfl rfl ?_) rfl ?_; (focus (first | rfl | assumption)))
             | (refine Wq_val (fun w hp => R_sneq_t rfl rfl ?_) rfl ?_; (focus (first | assumption | decide | exact List.cons_ne_nil _ _)))
             | (refine Wq_val (fun w hp => R_sneq rfl rfl) rfl ?_)
           refine Wq_end ?_
           intro w hp
           refine N_then_k ?_
           first
             | refine K_cond_d rfl (fun hc3 => ?_) (fun hc3 => ?_)
             | refine K_cond_n rfl (fun hc3 => ?_) (fun hc3 => ?_)
             | refine K_cond_nb rfl (fun hc3 => ?_) (fun hc3 => ?_)
             | refine K_cond_t rfl (fun hc3 => ?_) (fun hc3 => ?_)
           · try (exfalso; first | omega | (simp only [Bool.false_eq_true, reduceCtorEq] at hc3; done) | (refine absurd hc3 ?_; with_reducible assumption) | (refine absurd ?_ hc3; with_reducible assumption))
             all_goals (
              refine K_seq ?_
              refine K_region ?_
              refine W_assign rfl rfl ?_
              refine W_nil ?_
              refine N_then_k ?_
              refine K_ret ?_
              refine N_block_ret ?_
              refine N_then_ret ?_
              refine N_then_ret ?_
              refine N_block_ret ?_
              refine N_then_ret ?_
              refine N_done1 (.inr rfl) rfl rfl ?_
              refine ⟨_, rfl, congrArg Value.bool ?_, hp.nil⟩
              first
                | (refine (decide_eq_false fun e => ?_).symm; subst e; omega)
                | (refine (decide_eq_false fun e => ?_).symm; subst e; rw [hx] at hy; have e2 := Option.some.inj hy; contradiction)
                | (refine (decide_eq_true ?_).symm; rw [List.take_of_length_le hge, List.take_of_length_le (by omega)] at hab; exact hab))
           · try (exfalso; first | omega | (simp only [Bool.false_eq_true, reduceCtorEq] at hc3; done) | (refine absurd hc3 ?_; with_reducible assumption) | (refine absurd ?_ hc3; with_reducible assumption))
             all_goals (
              refine K_skip ?_
              refine N_block_normal ?_
              refine N_then_k ?_
              refine K_region ?_
              refine W_move rfl rfl ?_
              first
                | (refine W_add rfl rfl (wr_i64 ?_) rfl ?_; (focus (omega)))
                | (refine W_add rfl rfl rfl rfl ?_)
              refine W_assign rfl rfl ?_
              refine W_nil ?_
              refine N_again (k + 1) (sub_end ?_ ?_) ?_ ?_
              · repeat' (first | exact sub_lst_nil (sub_nil _) | refine sub_lst rfl ?_ | (refine sub_lst_eq rfl ?_ ?_; · first | rfl | (simp; done) | (congr 1; omega)))
              · repeat' (first | exact sub_refl _ | exact sub_strip _ _ | refine sub_s_cons rfl ?_ | refine sub_s_lst rfl ?_ | refine sub_s_strip rfl ?_)
              · refine ⟨hp, hlt, ?_⟩
                rw [List.take_add_one, List.take_add_one, hx, hy, hab]
                have e : x = y := by assumption
                rw [e]
              · omega))
        · try (exfalso; first | omega | (simp only [Bool.false_eq_true, reduceCtorEq] at hc2; done) | (refine absurd hc2 ?_; with_reducible assumption) | (refine absurd ?_ hc2; with_reducible assumption))
          all_goals (
           refine K_exit ?_
           refine N_then_exit ?_
           refine N_then_exit ?_
           refine N_block_exit ?_
           refine N_then_k ?_
           refine K_seq ?_
           refine K_region ?_
           refine W_assign rfl rfl ?_
           refine W_nil ?_
           refine N_then_k ?_
           refine K_ret ?_
           refine N_done1 (.inr rfl) rfl rfl ?_
           refine ⟨_, rfl, congrArg Value.bool ?_, hp.nil⟩
           first
             | (refine (decide_eq_false fun e => ?_).symm; subst e; omega)
             | (refine (decide_eq_false fun e => ?_).symm; subst e; rw [hx] at hy; have e2 := Option.some.inj hy; contradiction)
             | (refine (decide_eq_true ?_).symm; rw [List.take_of_length_le hge, List.take_of_length_le (by omega)] at hab; exact hab))))

end Go.Proofs.YtjmfjdmpbkdceaaDoor
