/-
  Laws of package lists, walked: case.
-/
import Derived.Test.YtjmfjdmpbkdceaaDoorLaw2
namespace Go.Proofs.YtjmfjdmpbkdceaaDoor
open Go.Sx Go.RowKit
set_option linter.unusedVariables false
set_option linter.unusedSimpArgs false
set_option maxRecDepth 100000

set_option maxHeartbeats 2000000 in
theorem ListsCase_walk (w0 : World) (L : List (List UInt8)) (Al : Option Addr) (cl : Nat) (hrl : Rd w0 (.slice Al L.length cl) L.length (L.map strV)) (hcl : L.length ≤ cl) (hnl : L.length ≤ 9223372036854775807) (wd : List UInt8) : PureAt Tryd.prog 6 [.slice Al L.length cl, .string ⟨wd.toArray⟩] (.bool true) w0 := by
  cases hf : fewB L
  all_goals try (obtain ⟨hNl, hMl⟩ := few_of hf; have hKl := all_lens hMl (show 300 ≤ 100000 by decide); have hEl := elemsL_lenm L hMl; have hQl : L.length ≤ 1000 := (by omega))
  all_goals try (rcases tok_two (elemsL L) with ⟨tl, ht⟩ | ht)
  all_goals try (have htl := tok_len (elemsL L); rw [ht] at htl; simp only at htl)
  all_goals (have hz : ([] : List (List UInt8)).length = 0 := rfl)
  all_goals try (have hlL : (L.map lower).length = L.length := List.length_map _; have hQ2 : (L.map lower).length ≤ 1000 := (by omega); have hK2 : ∀ v ∈ L.map lower, v.length ≤ 100000 := (fun v hv => by obtain ⟨x, hx, rfl⟩ := List.mem_map.1 hv; rw [lower_length]; exact hKl x hx))
  all_goals try (have ht2 := (show tokR (elemsL (L.map lower)) = tokR (elemsL L) by rw [elemsL_lower, tok_lower]).trans ht)
  all_goals (
   refine PureAt.intro go6 Tryd.func6 rfl rfl fun hp => ?_
   refine (fun (hk : ∀ w, Hp w0 [] [] w → K _ _ _ _ _ w) => hk w0 hp) fun w hp => ?_
   refine K_seq ?_
   refine K_region ?_
   refine W_assign rfl rfl ?_
   refine W_nil ?_
   refine N_then_k ?_
   refine K_seq ?_
   refine K_seq ?_
   refine K_region ?_
   refine W_acall hp rfl ((awake_spec w)) rfl ?_
   clear hp; intro w hp
   first
     | (refine W_not_t rfl rfl ?_)
     | (refine W_not_f rfl rfl ?_)
     | (refine W_not rfl rfl ?_)
   refine W_move rfl rfl ?_
   first
     | refine W_guard_lit_t rfl ?_
     | refine W_guard_lit_f rfl ?_
     | refine W_guard_lit_u rfl ?_
     | refine W_guard_split_d rfl rfl rfl (fun hg1 => ?_) (fun hg1 => ?_)
     | refine W_guard_split_n rfl rfl rfl (fun hg1 => ?_) (fun hg1 => ?_)
     | refine W_guard_split_nb rfl rfl rfl (fun hg1 => ?_) (fun hg1 => ?_)
     | refine W_guard_split rfl rfl rfl (fun hg1 => ?_) (fun hg1 => ?_)
   all_goals try (exfalso; first | omega | (simp only [Bool.false_eq_true, reduceCtorEq] at hg1; done) | (refine absurd hg1 ?_; with_reducible assumption) | (refine absurd ?_ hg1; with_reducible assumption))
   all_goals (
    first
      | (iterate 3 refine W_guard_no rfl rfl rfl ?_)
      | (iterate 3 refine W_guard_un rfl rfl ?_)
      | (refine W_guard_yes rfl ?_
         refine W_move rfl rfl ?_
         refine W_guard_yes rfl ?_
         refine W_acall hp rfl (((few_spec w L Al cl (hrl.keep hp) hnl).eq (congrArg Value.bool hf))) rfl ?_
         clear hp; intro w hp
         refine W_guard_yes rfl ?_
         first
           | (refine W_not_t rfl rfl ?_)
           | (refine W_not_f rfl rfl ?_)
           | (refine W_not rfl rfl ?_))
    first
      | (refine W_pick_t rfl rfl rfl ?_)
      | (refine W_pick_f rfl rfl rfl ?_)
      | (refine W_pick_b rfl rfl rfl rfl ?_)
    refine W_move rfl rfl ?_
    first
      | refine W_guard_lit_t rfl ?_
      | refine W_guard_lit_f rfl ?_
      | refine W_guard_lit_u rfl ?_
      | refine W_guard_split_d rfl rfl rfl (fun hg2 => ?_) (fun hg2 => ?_)
      | refine W_guard_split_n rfl rfl rfl (fun hg2 => ?_) (fun hg2 => ?_)
      | refine W_guard_split_nb rfl rfl rfl (fun hg2 => ?_) (fun hg2 => ?_)
      | refine W_guard_split rfl rfl rfl (fun hg2 => ?_) (fun hg2 => ?_)
    all_goals try (exfalso; first | omega | (simp only [Bool.false_eq_true, reduceCtorEq] at hg2; done) | (refine absurd hg2 ?_; with_reducible assumption) | (refine absurd ?_ hg2; with_reducible assumption))
    all_goals (
     first
       | (iterate 3 refine W_guard_no rfl rfl rfl ?_)
       | (iterate 3 refine W_guard_un rfl rfl ?_)
       | (refine W_guard_yes rfl ?_
          refine W_move rfl rfl ?_
          refine W_guard_yes rfl ?_
          refine W_len_s Tryd.underlying9 rfl rfl ?_
          refine W_guard_yes rfl ?_
          first
            | (refine W_gtr_t rfl rfl ?_ rfl ?_; (focus (omega)))
            | (refine W_gtr_f rfl rfl ?_ rfl ?_; (focus (omega)))
            | (refine W_gtr rfl rfl rfl ?_))
     first
       | (refine W_pick_t rfl rfl rfl ?_)
       | (refine W_pick_f rfl rfl rfl ?_)
       | (refine W_pick_b rfl rfl rfl rfl ?_)
     refine W_nil ?_
     refine N_then_k ?_
     first
       | refine K_cond_d rfl (fun hc3 => ?_) (fun hc3 => ?_)
       | refine K_cond_n rfl (fun hc3 => ?_) (fun hc3 => ?_)
       | refine K_cond_nb rfl (fun hc3 => ?_) (fun hc3 => ?_)
       | refine K_cond_t rfl (fun hc3 => ?_) (fun hc3 => ?_)
     · try (exfalso; first | omega | (simp only [Bool.false_eq_true, reduceCtorEq] at hc3; done) | (refine absurd hc3 ?_; with_reducible assumption) | (refine absurd ?_ hc3; with_reducible assumption))
       all_goals (
        refine K_seq ?_
        refine K_region ?_
        refine W_acall hp rfl ((awake_spec w)) rfl ?_
        clear hp; intro w hp
        refine W_assign rfl rfl ?_
        refine W_nil ?_
        refine N_then_k ?_
        refine K_ret ?_
        refine N_then_ret ?_
        refine N_done1 (.inr rfl) rfl rfl ?_
        exact ⟨_, rfl, rfl, hp.nil⟩)
     · try (exfalso; first | omega | (simp only [Bool.false_eq_true, reduceCtorEq] at hc3; done) | (refine absurd hc3 ?_; with_reducible assumption) | (refine absurd ?_ hc3; with_reducible assumption))
       all_goals (
        refine K_skip ?_
        refine N_then_k ?_
        refine K_seq ?_
        refine K_region ?_
        refine W_assign rfl rfl ?_
        refine W_nil ?_
        refine N_then_k ?_
        refine K_seq ?_
        refine K_seq ?_
        refine K_region ?_
        refine W_assign rfl rfl ?_
        refine W_nil ?_
        refine N_then_k ?_
        refine K_block ?_
        refine K_loop (σ := Nat × Value × Heap) [5, 6, 25, 26, 27, 28, 29, 30, 31, 32, 33, 34, 35, 36, 37, 38]
            (fun q => [(6, .int .i64 q.1), (5, q.2.1)])
            (fun q w => OSs 9 q.2.1 ((L.take q.1).map lower) q.2.2 ∧ Hp w0 [] q.2.2 w ∧ q.1 ≤ L.length)
            (fun q => L.length - q.1) ((0, .slice none 0 0, [])) ?_ ?_ ?_
        · repeat' (first | exact sub_lst_nil (sub_nil _) | refine sub_lst rfl ?_ | (refine sub_lst_eq rfl ?_ ?_; · first | rfl | (simp; done) | (congr 1; omega)))
        · exact ⟨by simpa using OSs.nil, hp, Nat.zero_le _⟩
        · intro ⟨k, va, Hs⟩ w hJ
          clear hp
          obtain ⟨hos, hp, hle⟩ := hJ
          simp only at hos hp hle
          change K _ _ _ _ (.lst ([(6, .int .i64 k), (5, va)]) _) _
          obtain ⟨Av, cv, rfl⟩ := hos.form
          rcases Nat.lt_or_ge k L.length with hlt | hge
          all_goals (
           refine K_seq ?_
           refine K_seq ?_
           refine K_region ?_
           refine W_move rfl rfl ?_
           refine W_move rfl rfl ?_
           refine W_len_sl Tryd.underlying22 rfl rfl ?_
           first
             | (refine W_lss_t rfl rfl ?_ rfl ?_; (focus (omega)))
             | (refine W_lss_f rfl rfl ?_ rfl ?_; (focus (omega)))
             | (refine W_lss rfl rfl rfl ?_)
           refine W_nil ?_
           refine N_then_k ?_
           first
             | refine K_cond_d rfl (fun hc4 => ?_) (fun hc4 => ?_)
             | refine K_cond_n rfl (fun hc4 => ?_) (fun hc4 => ?_)
             | refine K_cond_nb rfl (fun hc4 => ?_) (fun hc4 => ?_)
             | refine K_cond_t rfl (fun hc4 => ?_) (fun hc4 => ?_)
           · try (exfalso; first | omega | (simp only [Bool.false_eq_true, reduceCtorEq] at hc4; done) | (refine absurd hc4 ?_; with_reducible assumption) | (refine absurd ?_ hc4; with_reducible assumption))
             all_goals (
              refine K_skip ?_
              refine N_then_k ?_
              refine K_seq ?_
              refine K_block ?_
              obtain ⟨x, hx⟩ : ∃ x, L[k]? = some x := ⟨_, List.getElem?_eq_getElem hlt⟩
              have hxs := strV_at hx
              obtain ⟨bb, oo, rfl⟩ := hrl.some (by intro e; rw [e] at hxs; simp at hxs)
              have hcx := hrl.cell hxs
              have hxl := hMl x (List.mem_of_getElem? hx)
              have htk : ((L.take k).map lower).length ≤ L.length := by simp; omega
              refine K_region ?_
              refine W_move rfl rfl ?_
              refine W_move rfl rfl ?_
              refine W_move rfl rfl ?_
              refine W_indexAddr_sl Tryd.underlying22 sz9 rfl rfl ?_ ?_ rfl ?_
              (focus (omega))
              (focus (first | omega | (simp; done) | (simp; omega)))
              refine W_load_s Tryd.underlying9 rfl rfl (by exact hp.cell_old0 (by simpa using hcx)) rfl ?_
              refine W_pcall hp rfl (rlower_spec x (by omega)) rfl ?_
              clear hp; intro w hp
              refine W_bslice1 hp Tryd.underlying22 sz9 zv9 rfl  rfl  (fun v0 => [v0]) rfl rfl rfl ?_
              clear hp; intro b37 w hp
              try simp only [List.append_nil] at hp
              rw [← List.append_nil Hs] at hp
              refine W_append_sl (A := [_]) (B := []) _ rfl hp rfl Tryd.underlying22 sz9 pb9 zv9 rfl rfl rfl rfl hos (Rd.own hp (by first | exact List.mem_cons_self | exact .tail _ (.head _) | exact .tail _ (.tail _ (.head _)) | exact .tail _ (.tail _ (.tail _ (.head _))) | exact .tail _ (.tail _ (.tail _ (.tail _ (.head _)))) | exact .tail _ (.tail _ (.tail _ (.tail _ (.tail _ (.head _))))) | exact List.mem_append_right _ (.head _) | exact List.mem_append_right _ (.tail _ (.head _)) | exact List.mem_append_right _ (.tail _ (.tail _ (.head _))) | exact .tail _ (List.mem_append_right _ (.head _)) | exact .tail _ (List.mem_append_right _ (.tail _ (.head _))) | assumption | (repeat (first | exact List.mem_cons_self | apply List.mem_append_right | apply List.mem_cons_of_mem))) (List.prefix_refl _)) ?_ ?_ ?_ ?_ rfl ?_
              · rfl
              · first | (simp [Value.oneCell']; done) | (simp [Value.oneCell', strV]; done)
              · (simp only [maxLen]; omega)
              · omega
              clear hp; intro va38 Hs w hos hp
              replace hos := OSs.app (b := [lower x]) rfl rfl hos
              obtain ⟨Aa38, ca38, rfl⟩ := hos.form
              refine W_assign rfl rfl ?_
              refine W_nil ?_
              refine N_block_normal ?_
              refine N_then_k ?_
              refine K_region ?_
              refine W_move rfl rfl ?_
              first
                | (refine W_add rfl rfl (wr_i64 ?_) rfl ?_; (focus (omega)))
                | (refine W_add rfl rfl rfl rfl ?_)
              refine W_assign rfl rfl ?_
              refine W_nil ?_
              refine N_again (k + 1, _, Hs) (sub_end ?_ ?_) ⟨by show OSs _ _ ((L.take (k + 1)).map lower) _; rw [map_next hx]; exact hos, by simpa using hp.drop (List.sublist_cons_self _ _), hlt⟩ ?_
              · repeat' (first | exact sub_lst_nil (sub_nil _) | refine sub_lst rfl ?_ | (refine sub_lst_eq rfl ?_ ?_; · first | rfl | (simp; done) | (congr 1; omega)))
              · repeat' (first | exact sub_refl _ | exact sub_strip _ _ | refine sub_s_cons rfl ?_ | refine sub_s_lst rfl ?_ | refine sub_s_strip rfl ?_)
              · show _ < _; simp only; omega)
           · try (exfalso; first | omega | (simp only [Bool.false_eq_true, reduceCtorEq] at hc4; done) | (refine absurd hc4 ?_; with_reducible assumption) | (refine absurd ?_ hc4; with_reducible assumption))
             all_goals (
              refine K_exit ?_
              refine N_then_exit ?_
              refine N_then_exit ?_
              refine N_block_exit ?_
              refine N_then_k ?_
              refine K_seq ?_
              refine K_region ?_
              have hte : L.take k = L := List.take_of_length_le hge
              rw [hte] at hos ⊢
              refine W_move rfl rfl ?_
              refine W_move rfl rfl ?_
              refine W_acall hp rfl ((has_spec w L Al cl (hrl.keep hp) hQl hKl wd (by omega))) rfl ?_
              clear hp; intro w hp
              refine W_assign rfl rfl ?_
              refine W_nil ?_
              refine N_then_k ?_
              refine K_seq ?_
              refine K_region ?_
              refine W_move rfl rfl ?_
              refine W_bcall hp rfl ((tok_as (tokens_spec w L Al cl (hrl.keep hp) hQl hKl) ht)) rfl ?_
              clear hp; intro v44 G44 w r44 hp
              obtain ⟨u44, rfl, o44⟩ := r44
              obtain ⟨A44, c44, rfl⟩ := o44.form
              refine W_move rfl rfl ?_
              refine W_extract rfl rfl rfl ?_
              refine W_extract rfl rfl rfl ?_
              refine W_assign rfl rfl ?_
              refine W_assign rfl rfl ?_
              refine W_nil ?_
              refine N_then_k ?_
              refine K_seq ?_
              refine K_region ?_
              refine W_move rfl rfl ?_
              refine W_bcall hp rfl ((tok_as (tokens_spec w (L.map lower) _ _ (OS.rdm (show OS _ _ _ _ _ _ from hos) (fun p hq => hp.own p (by simp [hq]))) hQ2 hK2) ht2)) rfl ?_
              clear hp; intro v49 G49 w r49 hp
              obtain ⟨u49, rfl, o49⟩ := r49
              obtain ⟨A49, c49, rfl⟩ := o49.form
              refine W_move rfl rfl ?_
              refine W_extract rfl rfl rfl ?_
              refine W_extract rfl rfl rfl ?_
              refine W_assign rfl rfl ?_
              refine W_assign rfl rfl ?_
              refine W_nil ?_
              refine N_then_k ?_
              refine K_seq ?_
              refine K_region ?_
              refine W_move rfl rfl ?_
              refine W_pcall hp rfl (rlower_spec wd (by omega)) rfl ?_
              clear hp; intro w hp
              refine W_move rfl rfl ?_
              refine W_acall hp rfl (((has_spec w L Al cl (hrl.keep hp) hQl hKl (lower wd) (by rw [lower_length]; omega)).eq (congrArg Value.bool (has_lower_word wd _)))) rfl ?_
              clear hp; intro w hp
              refine W_move rfl rfl ?_
              first
                | (refine W_beql_t Tryd.underlying4 rfl rfl rfl rfl ?_)
                | (refine W_beql_f Tryd.underlying4 rfl rfl rfl rfl ?_)
                | (refine W_beql Tryd.underlying4 rfl rfl rfl ?_)
              refine W_move rfl rfl ?_
              first
                | refine W_guard_lit_t rfl ?_
                | refine W_guard_lit_f rfl ?_
                | refine W_guard_lit_u rfl ?_
                | refine W_guard_split_d rfl rfl rfl (fun hg5 => ?_) (fun hg5 => ?_)
                | refine W_guard_split_n rfl rfl rfl (fun hg5 => ?_) (fun hg5 => ?_)
                | refine W_guard_split_nb rfl rfl rfl (fun hg5 => ?_) (fun hg5 => ?_)
                | refine W_guard_split rfl rfl rfl (fun hg5 => ?_) (fun hg5 => ?_)
              all_goals try (exfalso; first | omega | (simp only [Bool.false_eq_true, reduceCtorEq] at hg5; done) | (refine absurd hg5 ?_; with_reducible assumption) | (refine absurd ?_ hg5; with_reducible assumption))
              all_goals (
               first
                 | (iterate 5 refine W_guard_no rfl rfl rfl ?_)
                 | (iterate 5 refine W_guard_un rfl rfl ?_)
                 | (refine W_guard_yes rfl ?_
                    refine W_move rfl rfl ?_
                    refine W_guard_yes rfl ?_
                    refine W_move rfl rfl ?_
                    refine W_guard_yes rfl ?_
                    refine W_acall hp rfl (((has_spec w (L.map lower) _ _ (OS.rdm (show OS _ _ _ _ _ _ from hos) (fun p hq => hp.own p (by simp [hq]))) hQ2 hK2 wd (by omega)).eq (congrArg Value.bool (show hasL wd (elemsL (L.map lower)) = hasL wd (elemsL L) by rw [elemsL_lower, has_lower])))) rfl ?_
                    clear hp; intro w hp
                    refine W_guard_yes rfl ?_
                    refine W_move rfl rfl ?_
                    refine W_guard_yes rfl ?_
                    first
                      | (refine W_beql_t Tryd.underlying4 rfl rfl rfl rfl ?_)
                      | (refine W_beql_f Tryd.underlying4 rfl rfl rfl rfl ?_)
                      | (refine W_beql Tryd.underlying4 rfl rfl rfl ?_))
               first
                 | (refine W_pick_t rfl rfl rfl ?_)
                 | (refine W_pick_f rfl rfl rfl ?_)
                 | (refine W_pick_b rfl rfl rfl rfl ?_)
               refine W_move rfl rfl ?_
               first
                 | refine W_guard_lit_t rfl ?_
                 | refine W_guard_lit_f rfl ?_
                 | refine W_guard_lit_u rfl ?_
                 | refine W_guard_split_d rfl rfl rfl (fun hg6 => ?_) (fun hg6 => ?_)
                 | refine W_guard_split_n rfl rfl rfl (fun hg6 => ?_) (fun hg6 => ?_)
                 | refine W_guard_split_nb rfl rfl rfl (fun hg6 => ?_) (fun hg6 => ?_)
                 | refine W_guard_split rfl rfl rfl (fun hg6 => ?_) (fun hg6 => ?_)
               all_goals try (exfalso; first | omega | (simp only [Bool.false_eq_true, reduceCtorEq] at hg6; done) | (refine absurd hg6 ?_; with_reducible assumption) | (refine absurd ?_ hg6; with_reducible assumption))
               all_goals (
                first
                  | (iterate 3 refine W_guard_no rfl rfl rfl ?_)
                  | (iterate 3 refine W_guard_un rfl rfl ?_)
                  | (refine W_guard_yes rfl ?_
                     refine W_move rfl rfl ?_
                     refine W_guard_yes rfl ?_
                     refine W_move rfl rfl ?_
                     refine W_guard_yes rfl ?_
                     first
                       | (refine W_beql_t Tryd.underlying4 rfl rfl rfl rfl ?_)
                       | (refine W_beql_f Tryd.underlying4 rfl rfl rfl rfl ?_)
                       | (refine W_beql Tryd.underlying4 rfl rfl rfl ?_))
                first
                  | (refine W_pick_t rfl rfl rfl ?_)
                  | (refine W_pick_f rfl rfl rfl ?_)
                  | (refine W_pick_b rfl rfl rfl rfl ?_)
                refine W_move rfl rfl ?_
                first
                  | refine W_guard_lit_t rfl ?_
                  | refine W_guard_lit_f rfl ?_
                  | refine W_guard_lit_u rfl ?_
                  | refine W_guard_split_d rfl rfl rfl (fun hg7 => ?_) (fun hg7 => ?_)
                  | refine W_guard_split_n rfl rfl rfl (fun hg7 => ?_) (fun hg7 => ?_)
                  | refine W_guard_split_nb rfl rfl rfl (fun hg7 => ?_) (fun hg7 => ?_)
                  | refine W_guard_split rfl rfl rfl (fun hg7 => ?_) (fun hg7 => ?_)
                all_goals try (exfalso; first | omega | (simp only [Bool.false_eq_true, reduceCtorEq] at hg7; done) | (refine absurd hg7 ?_; with_reducible assumption) | (refine absurd ?_ hg7; with_reducible assumption))
                all_goals (
                 first
                   | (iterate 3 refine W_guard_no rfl rfl rfl ?_)
                   | (iterate 3 refine W_guard_un rfl rfl ?_)
                   | (refine W_guard_yes rfl ?_
                      refine W_move rfl rfl ?_
                      refine W_guard_yes rfl ?_
                      refine W_move rfl rfl ?_
                      refine W_guard_yes rfl ?_
                      first
                        | (refine W_acall hp rfl ((texts_spec w tl tl _ _ _ _ (OS.rdm (show OS _ _ _ _ _ _ from o44) (fun p hq => hp.own p (by simp [hq]))) (OS.rdm (show OS _ _ _ _ _ _ from o49) (fun p hq => hp.own p (by simp [hq]))) (by omega)).eq (congrArg Value.bool (decide_eq_true rfl))) rfl ?_)
                        | (refine W_acall hp rfl ((texts_spec w [] [] _ _ _ _ (OS.rdm (show OS _ _ _ _ _ _ from o44) (fun p hq => hp.own p (by simp [hq]))) (OS.rdm (show OS _ _ _ _ _ _ from o49) (fun p hq => hp.own p (by simp [hq]))) (by decide)).eq (congrArg Value.bool (decide_eq_true rfl))) rfl ?_)
                      clear hp; intro w hp)
                 first
                   | (refine W_pick_t rfl rfl rfl ?_)
                   | (refine W_pick_f rfl rfl rfl ?_)
                   | (refine W_pick_b rfl rfl rfl rfl ?_)
                 refine W_assign rfl rfl ?_
                 refine W_nil ?_
                 refine N_then_k ?_
                 refine K_ret ?_
                 refine N_done1 (.inr rfl) rfl rfl ?_
                 exact ⟨_, rfl, rfl, hp.nil⟩)))))))))

end Go.Proofs.YtjmfjdmpbkdceaaDoor
