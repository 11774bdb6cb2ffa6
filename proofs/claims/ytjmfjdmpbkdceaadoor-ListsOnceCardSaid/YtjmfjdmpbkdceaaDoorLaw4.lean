/-
  Laws of package lists, walked: once.
-/
import Derived.Test.YtjmfjdmpbkdceaaDoorLaw2
namespace Go.Proofs.YtjmfjdmpbkdceaaDoor
open Go.Sx Go.RowKit
set_option linter.unusedVariables false
set_option linter.unusedSimpArgs false
set_option maxRecDepth 100000

set_option maxHeartbeats 2000000 in
theorem ListsOnce_walk (w0 : World) (L : List (List UInt8)) (Al : Option Addr) (cl : Nat) (hrl : Rd w0 (.slice Al L.length cl) L.length (L.map strV)) (hcl : L.length ≤ cl) (hnl : L.length ≤ 9223372036854775807) (wd : List UInt8) : PureAt Tryd.prog 7 [.slice Al L.length cl, .string ⟨wd.toArray⟩] (.bool true) w0 := by
  cases hf : fewB L
  all_goals try (obtain ⟨hNl, hMl⟩ := few_of hf; have hKl := all_lens hMl (show 300 ≤ 100000 by decide); have hEl := elemsL_lenm L hMl; have hQl : L.length ≤ 1000 := (by omega))
  all_goals try (have hwl : ([32] ++ wd ++ [9, 44] : List UInt8).length = wd.length + 3 := (by simp); have htw := trim_length wd)
  all_goals (
   refine PureAt.intro go7 Tryd.func7 rfl rfl fun hp => ?_
   refine (fun (hk : ∀ w, Hp w0 [] [] w → K _ _ _ _ _ w) => hk w0 hp) fun w hp => ?_
   refine K_seq ?_
   refine K_region ?_
   refine W_assign rfl rfl ?_
   refine W_nil ?_
   refine N_then_k ?_
   refine K_seq ?_
   refine K_seq ?_
   refine K_region ?_
   refine W_acall hp rfl ((awake_spec w)) rfl ?_
   clear hp; intro w hp
   first
     | (refine W_not_t rfl rfl ?_)
     | (refine W_not_f rfl rfl ?_)
     | (refine W_not rfl rfl ?_)
   refine W_move rfl rfl ?_
   first
     | refine W_guard_lit_t rfl ?_
     | refine W_guard_lit_f rfl ?_
     | refine W_guard_lit_u rfl ?_
     | refine W_guard_split_d rfl rfl rfl (fun hg1 => ?_) (fun hg1 => ?_)
     | refine W_guard_split_n rfl rfl rfl (fun hg1 => ?_) (fun hg1 => ?_)
     | refine W_guard_split_nb rfl rfl rfl (fun hg1 => ?_) (fun hg1 => ?_)
     | refine W_guard_split rfl rfl rfl (fun hg1 => ?_) (fun hg1 => ?_)
   all_goals try (exfalso; first | omega | (simp only [Bool.false_eq_true, reduceCtorEq] at hg1; done) | (refine absurd hg1 ?_; with_reducible assumption) | (refine absurd ?_ hg1; with_reducible assumption))
   all_goals (
    first
      | (iterate 3 refine W_guard_no rfl rfl rfl ?_)
      | (iterate 3 refine W_guard_un rfl rfl ?_)
      | (refine W_guard_yes rfl ?_
         refine W_move rfl rfl ?_
         refine W_guard_yes rfl ?_
         refine W_acall hp rfl (((few_spec w L Al cl (hrl.keep hp) hnl).eq (congrArg Value.bool hf))) rfl ?_
         clear hp; intro w hp
         refine W_guard_yes rfl ?_
         first
           | (refine W_not_t rfl rfl ?_)
           | (refine W_not_f rfl rfl ?_)
           | (refine W_not rfl rfl ?_))
    first
      | (refine W_pick_t rfl rfl rfl ?_)
      | (refine W_pick_f rfl rfl rfl ?_)
      | (refine W_pick_b rfl rfl rfl rfl ?_)
    refine W_move rfl rfl ?_
    first
      | refine W_guard_lit_t rfl ?_
      | refine W_guard_lit_f rfl ?_
      | refine W_guard_lit_u rfl ?_
      | refine W_guard_split_d rfl rfl rfl (fun hg2 => ?_) (fun hg2 => ?_)
      | refine W_guard_split_n rfl rfl rfl (fun hg2 => ?_) (fun hg2 => ?_)
      | refine W_guard_split_nb rfl rfl rfl (fun hg2 => ?_) (fun hg2 => ?_)
      | refine W_guard_split rfl rfl rfl (fun hg2 => ?_) (fun hg2 => ?_)
    all_goals try (exfalso; first | omega | (simp only [Bool.false_eq_true, reduceCtorEq] at hg2; done) | (refine absurd hg2 ?_; with_reducible assumption) | (refine absurd ?_ hg2; with_reducible assumption))
    all_goals (
     first
       | (iterate 3 refine W_guard_no rfl rfl rfl ?_)
       | (iterate 3 refine W_guard_un rfl rfl ?_)
       | (refine W_guard_yes rfl ?_
          refine W_move rfl rfl ?_
          refine W_guard_yes rfl ?_
          refine W_len_s Tryd.underlying9 rfl rfl ?_
          refine W_guard_yes rfl ?_
          first
            | (refine W_gtr_t rfl rfl ?_ rfl ?_; (focus (omega)))
            | (refine W_gtr_f rfl rfl ?_ rfl ?_; (focus (omega)))
            | (refine W_gtr rfl rfl rfl ?_))
     first
       | (refine W_pick_t rfl rfl rfl ?_)
       | (refine W_pick_f rfl rfl rfl ?_)
       | (refine W_pick_b rfl rfl rfl rfl ?_)
     refine W_move rfl rfl ?_
     first
       | refine W_guard_lit_t rfl ?_
       | refine W_guard_lit_f rfl ?_
       | refine W_guard_lit_u rfl ?_
       | refine W_guard_split_d rfl rfl rfl (fun hg3 => ?_) (fun hg3 => ?_)
       | refine W_guard_split_n rfl rfl rfl (fun hg3 => ?_) (fun hg3 => ?_)
       | refine W_guard_split_nb rfl rfl rfl (fun hg3 => ?_) (fun hg3 => ?_)
       | refine W_guard_split rfl rfl rfl (fun hg3 => ?_) (fun hg3 => ?_)
     all_goals try (exfalso; first | omega | (simp only [Bool.false_eq_true, reduceCtorEq] at hg3; done) | (refine absurd hg3 ?_; with_reducible assumption) | (refine absurd ?_ hg3; with_reducible assumption))
     all_goals (
      first
        | (iterate 3 refine W_guard_no rfl rfl rfl ?_)
        | (iterate 3 refine W_guard_un rfl rfl ?_)
        | (refine W_guard_yes rfl ?_
           refine W_move rfl rfl ?_
           refine W_guard_yes rfl ?_
           refine W_pcall hp rfl (rtrim_spec wd (by omega)) rfl ?_
           clear hp; intro w hp
           refine W_guard_yes rfl ?_
           first
             | (refine W_seql_t rfl rfl ?_ rfl ?_; (focus (first | rfl | assumption)))
             | (refine W_seql_f rfl rfl ?_ rfl ?_; (focus (first | assumption | decide | exact List.cons_ne_nil _ _)))
             | (refine W_seql rfl rfl rfl ?_))
      first
        | (refine W_pick_t rfl rfl rfl ?_)
        | (refine W_pick_f rfl rfl rfl ?_)
        | (refine W_pick_b rfl rfl rfl rfl ?_)
      refine W_move rfl rfl ?_
      first
        | refine W_guard_lit_t rfl ?_
        | refine W_guard_lit_f rfl ?_
        | refine W_guard_lit_u rfl ?_
        | refine W_guard_split_d rfl rfl rfl (fun hg4 => ?_) (fun hg4 => ?_)
        | refine W_guard_split_n rfl rfl rfl (fun hg4 => ?_) (fun hg4 => ?_)
        | refine W_guard_split_nb rfl rfl rfl (fun hg4 => ?_) (fun hg4 => ?_)
        | refine W_guard_split rfl rfl rfl (fun hg4 => ?_) (fun hg4 => ?_)
      all_goals try (exfalso; first | omega | (simp only [Bool.false_eq_true, reduceCtorEq] at hg4; done) | (refine absurd hg4 ?_; with_reducible assumption) | (refine absurd ?_ hg4; with_reducible assumption))
      all_goals (
       first
         | (iterate 2 refine W_guard_no rfl rfl rfl ?_)
         | (iterate 2 refine W_guard_un rfl rfl ?_)
         | (refine W_guard_yes rfl ?_
            refine W_move rfl rfl ?_
            refine W_guard_yes rfl ?_
            refine W_pcall hp rfl (in_spec 44 wd (by omega)) rfl ?_
            clear hp; intro w hp)
       first
         | (refine W_pick_t rfl rfl rfl ?_)
         | (refine W_pick_f rfl rfl rfl ?_)
         | (refine W_pick_b rfl rfl rfl rfl ?_)
       refine W_nil ?_
       refine N_then_k ?_
       first
         | refine K_cond_d rfl (fun hc5 => ?_) (fun hc5 => ?_)
         | refine K_cond_n rfl (fun hc5 => ?_) (fun hc5 => ?_)
         | refine K_cond_nb rfl (fun hc5 => ?_) (fun hc5 => ?_)
         | refine K_cond_t rfl (fun hc5 => ?_) (fun hc5 => ?_)
       · try (exfalso; first | omega | (simp only [Bool.false_eq_true, reduceCtorEq] at hc5; done) | (refine absurd hc5 ?_; with_reducible assumption) | (refine absurd ?_ hc5; with_reducible assumption))
         all_goals (
          refine K_seq ?_
          refine K_region ?_
          refine W_acall hp rfl ((awake_spec w)) rfl ?_
          clear hp; intro w hp
          refine W_assign rfl rfl ?_
          refine W_nil ?_
          refine N_then_k ?_
          refine K_ret ?_
          refine N_then_ret ?_
          refine N_done1 (.inr rfl) rfl rfl ?_
          exact ⟨_, rfl, rfl, hp.nil⟩)
       · try (exfalso; first | omega | (simp only [Bool.false_eq_true, reduceCtorEq] at hc5; done) | (refine absurd hc5 ?_; with_reducible assumption) | (refine absurd ?_ hc5; with_reducible assumption))
         all_goals (
          refine K_skip ?_
          refine N_then_k ?_
          refine K_seq ?_
          have hne : trim wd ≠ [] := by assumption
          have hno : (44 : UInt8) ∉ wd := by assumption
          have hon := once_elems hno hne L
          have hQ2 : (L ++ [[32] ++ wd ++ [9, 44]]).length ≤ 1000 := by rw [List.length_append, List.length_singleton]; omega
          have hK2 : ∀ v ∈ (L ++ [[32] ++ wd ++ [9, 44]]), v.length ≤ 100000 := fun v hv => by
            rcases List.mem_append.1 hv with h | h
            · exact hKl v h
            · rw [List.mem_singleton.1 h, hwl]; omega
          refine K_region ?_
          refine W_move rfl rfl ?_
          refine W_bcall hp rfl ((relements_spec w L Al cl (hrl.keep hp) hQl hKl)) rfl ?_
          clear hp; intro v31 G31 w r31 hp
          obtain ⟨A31, c31, rfl⟩ := r31.form
          refine W_assign rfl rfl ?_
          refine W_nil ?_
          refine N_then_k ?_
          refine K_seq ?_
          refine K_region ?_
          refine W_bslice0 hp Tryd.underlying22 sz9 zv9   ([]) rfl rfl rfl ?_
          clear hp; intro b32 w hp
          refine W_move rfl rfl ?_
          have hos := OS.lit (e := 9) (sz := 1) (b := b32) (k := 0) (cs := []) rfl (by decide)
          refine W_append_sl (A := []) (B := _) (L.map strV) rfl hp rfl Tryd.underlying22 sz9 pb9 zv9 rfl rfl rfl rfl hos (hrl.keep hp) ?_ ?_ ?_ ?_ rfl ?_
          · simp
          · exact strs_one
          · (simp only [maxLen]; omega)
          · omega
          clear hp; intro va34 H34 w o34 hp
          replace o34 := OSs.app (a := []) (b := L) (by rfl) rfl o34
          simp only [List.nil_append] at o34 hp
          obtain ⟨Aa34, ca34, rfl⟩ := o34.form
          refine W_move rfl rfl ?_
          refine W_sadd rfl rfl ?_ rfl ?_
          (focus (first | omega | (simp only [List.length_append, List.length_cons, List.length_nil, List.length_drop, List.length_take] at *; omega) | (simp; omega)))
          refine W_sadd rfl rfl ?_ rfl ?_
          (focus (first | omega | (simp only [List.length_append, List.length_cons, List.length_nil, List.length_drop, List.length_take] at *; omega) | (simp; omega)))
          refine W_bslice1 hp Tryd.underlying22 sz9 zv9 rfl  rfl  (fun v0 => [v0]) rfl rfl rfl ?_
          clear hp; intro b38 w hp
          refine W_append_sl (A := [_]) (B := _) ([[32] ++ wd ++ [9, 44]].map strV) rfl hp rfl Tryd.underlying22 sz9 pb9 zv9 rfl rfl rfl rfl o34 (Rd.own hp (by first | exact List.mem_cons_self | exact .tail _ (.head _) | exact .tail _ (.tail _ (.head _)) | exact .tail _ (.tail _ (.tail _ (.head _))) | exact .tail _ (.tail _ (.tail _ (.tail _ (.head _)))) | exact .tail _ (.tail _ (.tail _ (.tail _ (.tail _ (.head _))))) | exact List.mem_append_right _ (.head _) | exact List.mem_append_right _ (.tail _ (.head _)) | exact List.mem_append_right _ (.tail _ (.tail _ (.head _))) | exact .tail _ (List.mem_append_right _ (.head _)) | exact .tail _ (List.mem_append_right _ (.tail _ (.head _))) | assumption | (repeat (first | exact List.mem_cons_self | apply List.mem_append_right | apply List.mem_cons_of_mem))) (List.prefix_refl _)) ?_ ?_ ?_ ?_ rfl ?_
          · simp
          · first | (simp [Value.oneCell']; done) | (simp [Value.oneCell', strV]; done)
          · (simp only [maxLen]; omega)
          · omega
          clear hp; intro va39 H39 w o39 hp
          replace o39 := OSs.app (a := L) (b := [[32] ++ wd ++ [9, 44]]) rfl rfl o39
          obtain ⟨Aa39, ca39, rfl⟩ := o39.form
          refine W_assign rfl rfl ?_
          refine W_nil ?_
          refine N_then_k ?_
          refine K_seq ?_
          refine K_region ?_
          refine W_move rfl rfl ?_
          refine W_bcall hp rfl ((elements_spec w (L ++ [[32] ++ wd ++ [9, 44]]) _ _ (OS.rdm (show OS _ _ _ _ _ _ from o39) (fun p hq => hp.own p (by simp [hq]))) hQ2 hK2)) rfl ?_
          clear hp; intro v41 G41 w r41 hp
          rw [hon] at r41
          obtain ⟨A41, c41, rfl⟩ := r41.form
          obtain ⟨bb, oo, rfl⟩ := (OS.rdm (show OS _ _ _ _ _ _ from r41) (w := w) (fun p hq => hp.own p (by simp [hq]))).some (by simp)
          have hgl : (elemsL L ++ [trim wd]).length = (elemsL L).length + 1 := by simp
          have hcg := OS.room (show OS _ _ (.slice (some ⟨bb, oo, none⟩) _ c41) _ _ _ from r41)
          refine W_assign rfl rfl ?_
          refine W_nil ?_
          refine N_then_k ?_
          refine K_seq ?_
          refine K_seq ?_
          refine K_region ?_
          refine W_move rfl rfl ?_
          refine W_len_sl Tryd.underlying22 rfl rfl ?_
          refine W_move rfl rfl ?_
          refine W_len_sl Tryd.underlying22 rfl rfl ?_
          first
            | (refine W_add rfl rfl (wr_i64 ?_) rfl ?_; (focus (omega)))
            | (refine W_add rfl rfl rfl rfl ?_)
          first
            | (refine W_neq_t rfl rfl ?_ rfl ?_; (focus (omega)))
            | (refine W_neq_f rfl rfl ?_ rfl ?_; (focus (omega)))
            | (refine W_neq rfl rfl rfl ?_)
          refine W_nil ?_
          refine N_then_k ?_
          first
            | refine K_cond_d rfl (fun hc6 => ?_) (fun hc6 => ?_)
            | refine K_cond_n rfl (fun hc6 => ?_) (fun hc6 => ?_)
            | refine K_cond_nb rfl (fun hc6 => ?_) (fun hc6 => ?_)
            | refine K_cond_t rfl (fun hc6 => ?_) (fun hc6 => ?_)
          · try (exfalso; first | omega | (simp only [Bool.false_eq_true, reduceCtorEq] at hc6; done) | (refine absurd hc6 ?_; with_reducible assumption) | (refine absurd ?_ hc6; with_reducible assumption))
            all_goals (
             refine K_seq ?_
             refine K_region ?_
             refine W_assign rfl rfl ?_
             refine W_nil ?_
             refine N_then_k ?_
             refine K_ret ?_
             refine N_then_ret ?_
             refine N_done1 (.inr rfl) rfl rfl ?_
             exact ⟨_, rfl, rfl, hp.nil⟩)
          · try (exfalso; first | omega | (simp only [Bool.false_eq_true, reduceCtorEq] at hc6; done) | (refine absurd hc6 ?_; with_reducible assumption) | (refine absurd ?_ hc6; with_reducible assumption))
            all_goals (
             refine K_skip ?_
             refine N_then_k ?_
             refine K_seq ?_
             skip
             refine K_quiet hm hp (by kernel_rfl) ?_
             clear hp
             refine Wq_val (fun w hp => R_move rfl) rfl ?_
             refine Wq_val (fun w hp => R_move rfl) rfl ?_
             refine Wq_val (fun w hp => R_len_sl Tryd.underlying22 rfl) rfl ?_
             refine Wq_val (fun w hp => R_cut_h Tryd.underlying22 sz9 rfl rfl (by omega) (by rw [List.length_append] at hcg; simp at hcg; omega)) rfl ?_
             refine Wq_val (fun w hp => R_move rfl) rfl ?_
             refine Wq_acall rfl (fun w hp => ((texts_spec w (elemsL L) (elemsL L) _ _ _ _ (by have := rd_cut_h (j := (elemsL L).length) (s := 1) (OS.rdm (show OS _ _ _ _ _ _ from r41) (w := w) (fun p hq => hp.own p (by simp [hq]))); rw [Nat.mul_one, List.map_append, List.take_left' (by simp)] at this; exact this) (OS.rdm (show OS _ _ _ _ _ _ from r31) (fun p hq => hp.own p (by simp [hq]))) (by omega)).eq (congrArg Value.bool (decide_eq_true rfl)))) rfl ?_
             refine Wq_val (fun w hp => R_move rfl) rfl ?_
             first
               | refine Wq_guard_lit_t rfl ?_
               | refine Wq_guard_lit_f rfl ?_
               | refine Wq_guard_lit_u rfl ?_
               | refine Wq_guard_split_d rfl rfl rfl (fun hg7 => ?_) (fun hg7 => ?_)
               | refine Wq_guard_split_n rfl rfl rfl (fun hg7 => ?_) (fun hg7 => ?_)
               | refine Wq_guard_split_nb rfl rfl rfl (fun hg7 => ?_) (fun hg7 => ?_)
               | refine Wq_guard_split rfl rfl rfl (fun hg7 => ?_) (fun hg7 => ?_)
             all_goals try (exfalso; first | omega | (simp only [Bool.false_eq_true, reduceCtorEq] at hg7; done) | (refine absurd hg7 ?_; with_reducible assumption) | (refine absurd ?_ hg7; with_reducible assumption))
             all_goals (
              first
                | (iterate 8 refine Wq_guard_no rfl rfl rfl ?_)
                | (iterate 8 refine Wq_guard_un rfl rfl ?_)
                | (refine Wq_guard_yes rfl ?_
                   refine Wq_val (fun w hp => R_move rfl) rfl ?_
                   refine Wq_guard_yes rfl ?_
                   refine Wq_val (fun w hp => R_move rfl) rfl ?_
                   refine Wq_guard_yes rfl ?_
                   refine Wq_val (fun w hp => R_len_sl Tryd.underlying22 rfl) rfl ?_
                   refine Wq_guard_yes rfl ?_
                   refine Wq_val (fun w hp => R_indexAddr_sl Tryd.underlying22 sz9 rfl rfl ?_ ?_) rfl ?_
                   (focus (omega))
                   (focus (first | omega | (simp; done) | (simp; omega)))
                   refine Wq_guard_yes rfl ?_
                   refine Wq_val (fun w hp => R_load_s Tryd.underlying9 rfl rfl (by have := (OS.rdm (show OS _ _ _ _ _ _ from r41) (w := w) (fun p hq => hp.own p (by simp [hq]))).cell (m := (elemsL L).length) (u := strV (trim wd)) (by simp); simpa using this)) rfl ?_
                   refine Wq_guard_yes rfl ?_
                   refine Wq_val (fun w hp => R_move rfl) rfl ?_
                   refine Wq_guard_yes rfl ?_
                   refine Wq_pcall rfl (rtrim_spec wd (by omega)) rfl ?_
                   refine Wq_guard_yes rfl ?_
                   first
                     | (refine Wq_val (fun w hp => R_seql_t rfl rfl ?_) rfl ?_; (focus (first | rfl | assumption)))
                     | (refine Wq_val (fun w hp => R_seql_f rfl rfl ?_) rfl ?_; (focus (first | assumption | decide | exact List.cons_ne_nil _ _)))
                     | (refine Wq_val (fun w hp => R_seql rfl rfl) rfl ?_))
              first
                | (refine Wq_val (fun w hp => R_pick_t rfl rfl) rfl ?_)
                | (refine Wq_val (fun w hp => R_pick_f rfl rfl) rfl ?_)
                | (refine Wq_val (fun w hp => R_pick_b rfl rfl rfl) rfl ?_)
              refine Wq_val (fun w hp => R_move rfl) rfl ?_
              first
                | refine Wq_guard_lit_t rfl ?_
                | refine Wq_guard_lit_f rfl ?_
                | refine Wq_guard_lit_u rfl ?_
                | refine Wq_guard_split_d rfl rfl rfl (fun hg8 => ?_) (fun hg8 => ?_)
                | refine Wq_guard_split_n rfl rfl rfl (fun hg8 => ?_) (fun hg8 => ?_)
                | refine Wq_guard_split_nb rfl rfl rfl (fun hg8 => ?_) (fun hg8 => ?_)
                | refine Wq_guard_split rfl rfl rfl (fun hg8 => ?_) (fun hg8 => ?_)
              all_goals try (exfalso; first | omega | (simp only [Bool.false_eq_true, reduceCtorEq] at hg8; done) | (refine absurd hg8 ?_; with_reducible assumption) | (refine absurd ?_ hg8; with_reducible assumption))
              all_goals (
               first
                 | (iterate 4 refine Wq_guard_no rfl rfl rfl ?_)
                 | (iterate 4 refine Wq_guard_un rfl rfl ?_)
                 | (refine Wq_guard_yes rfl ?_
                    refine Wq_val (fun w hp => R_move rfl) rfl ?_
                    refine Wq_guard_yes rfl ?_
                    refine Wq_pcall rfl (rtrim_spec wd (by omega)) rfl ?_
                    refine Wq_guard_yes rfl ?_
                    refine Wq_val (fun w hp => R_move rfl) rfl ?_
                    refine Wq_guard_yes rfl ?_
                    refine Wq_acall rfl (fun w hp => ((has_spec w (L ++ [[32] ++ wd ++ [9, 44]]) _ _ (OS.rdm (show OS _ _ _ _ _ _ from o39) (fun p hq => hp.own p (by simp [hq]))) hQ2 hK2 (trim wd) (by omega)).eq (congrArg Value.bool (show hasL (trim wd) (elemsL (L ++ [[32] ++ wd ++ [9, 44]])) = true by rw [hon]; exact once_has wd _)))) rfl ?_)
               first
                 | (refine Wq_val (fun w hp => R_pick_t rfl rfl) rfl ?_)
                 | (refine Wq_val (fun w hp => R_pick_f rfl rfl) rfl ?_)
                 | (refine Wq_val (fun w hp => R_pick_b rfl rfl rfl) rfl ?_)
               refine Wq_val (fun w hp => R_assign rfl) rfl ?_
               refine Wq_end ?_
               intro w hp
               refine N_then_k ?_
               refine K_ret ?_
               refine N_done1 (.inr rfl) rfl rfl ?_
               exact ⟨_, rfl, rfl, hp.nil⟩)))))))))

end Go.Proofs.YtjmfjdmpbkdceaaDoor
