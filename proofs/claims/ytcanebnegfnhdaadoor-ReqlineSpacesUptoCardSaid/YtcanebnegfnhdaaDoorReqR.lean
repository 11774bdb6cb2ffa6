/-
  doorkeeperref10.Parse, walked.
-/
import Derived.Test.YtcanebnegfnhdaaDoorReqN
namespace Go.Proofs.YtcanebnegfnhdaaDoor
open Go.Sx Go.RowKit
set_option linter.unusedVariables false
set_option linter.unusedSimpArgs false
set_option maxRecDepth 100000

set_option maxHeartbeats 2000000 in
theorem rparse_spec (w0 : World) (s : List UInt8) (hl : s.length ≤ 2000000) : PureAt Tryd.prog 10 [.string ⟨s.toArray⟩] (rreqV (reqL (splitB 32 s))) w0 := by
  obtain ⟨L, hL⟩ : ∃ L, L = splitB 32 s := ⟨_, rfl⟩
  have hPL := posS_split s
  rw [← hL] at hPL
  refine PureAt.intro go10 Tryd.func10 rfl rfl fun hp => ?_
  refine (fun (hk : ∀ w, Hp w0 [] [] w → K _ _ _ _ _ w) => hk w0 hp) fun w hp => ?_
  refine K_seq ?_
  refine K_region ?_
  refine W_alloc hp zv29 rfl rfl ?_
  clear hp; intro b2 w hp
  refine W_assign rfl rfl ?_
  refine W_assign rfl rfl ?_
  refine W_nil ?_
  refine N_then_k ?_
  refine K_seq ?_
  refine K_region ?_
  refine W_assign rfl rfl ?_
  refine W_nil ?_
  refine N_then_k ?_
  refine K_seq ?_
  refine K_seq ?_
  refine K_region ?_
  refine W_assign rfl rfl ?_
  refine W_nil ?_
  refine N_then_k ?_
  refine K_block ?_
  refine K_loop (σ := Nat × Value × Heap) [5, 6, 11, 12, 13, 14, 15, 16, 17, 18, 19, 20, 21, 22, 23, 24]
      (fun q => [(6, .int .i64 q.1), (5, q.2.1)])
      (fun q w => OSn 3 q.2.1 (posS (s.take q.1) 0) q.2.2 ∧ Hp w0 [] (q.2.2 ++ [(b2, .cells [.string ⟨#[]⟩, .string ⟨#[]⟩, .int .i64 0].toArray 29)]) w ∧ q.1 ≤ s.length)
      (fun q => s.length - q.1) ((0, .slice none 0 0, [])) ?_ ?_ ?_
  · repeat' (first | exact sub_lst_nil (sub_nil _) | refine sub_lst rfl ?_ | (refine sub_lst_eq rfl ?_ ?_; · first | rfl | (simp; done) | (congr 1; omega)))
  · exact ⟨OSn.nil, hp, Nat.zero_le _⟩
  · intro ⟨k, va, Hs⟩ w hJ
    clear hp
    obtain ⟨hos, hp, hle⟩ := hJ
    simp only at hos hp hle
    change K _ _ _ _ (.lst ([(6, .int .i64 k), (5, va)]) _) _
    obtain ⟨Av, cv, rfl⟩ := hos.form
    have hpc : (posS (s.take k) 0).length ≤ k := by rw [posS_count]; exact Nat.le_trans List.count_le_length (by rw [List.length_take]; omega)
    rcases Nat.lt_or_ge k s.length with hlt | hge
    all_goals (
     refine K_seq ?_
     refine K_seq ?_
     refine K_region ?_
     refine W_move rfl rfl ?_
     refine W_move rfl rfl ?_
     refine W_len_s Tryd.underlying9 rfl rfl ?_
     first
       | (refine W_lss_t rfl rfl ?_ rfl ?_; (focus (omega)))
       | (refine W_lss_f rfl rfl ?_ rfl ?_; (focus (omega)))
       | (refine W_lss rfl rfl rfl ?_)
     refine W_nil ?_
     refine N_then_k ?_
     first
       | refine K_cond_d rfl (fun hc1 => ?_) (fun hc1 => ?_)
       | refine K_cond_n rfl (fun hc1 => ?_) (fun hc1 => ?_)
       | refine K_cond_nb rfl (fun hc1 => ?_) (fun hc1 => ?_)
       | refine K_cond_t rfl (fun hc1 => ?_) (fun hc1 => ?_)
     · try (exfalso; first | omega | (simp only [Bool.false_eq_true, reduceCtorEq] at hc1; done) | (refine absurd hc1 ?_; with_reducible assumption) | (refine absurd ?_ hc1; with_reducible assumption))
       all_goals (
        refine K_skip ?_
        refine N_then_k ?_
        refine K_seq ?_
        refine K_block ?_
        refine K_seq ?_
        refine K_region ?_
        obtain ⟨x, hx⟩ : ∃ x, s[k]? = some x := ⟨_, List.getElem?_eq_getElem hlt⟩
        have hpn := posS_next hx
        have hu := x.toNat_lt
        refine W_move rfl rfl ?_
        refine W_move rfl rfl ?_
        refine W_index_s (b := x) Tryd.underlying9 rfl rfl (by omega) (by exact hx) rfl ?_
        first
          | (refine W_eql_t rfl rfl ?_ rfl ?_; (focus (omega)))
          | (refine W_eql_f rfl rfl ?_ rfl ?_; (focus (omega)))
          | (refine W_eql rfl rfl rfl ?_)
        refine W_nil ?_
        refine N_then_k ?_
        first
          | refine K_cond_d rfl (fun hc2 => ?_) (fun hc2 => ?_)
          | refine K_cond_n rfl (fun hc2 => ?_) (fun hc2 => ?_)
          | refine K_cond_nb rfl (fun hc2 => ?_) (fun hc2 => ?_)
          | refine K_cond_t rfl (fun hc2 => ?_) (fun hc2 => ?_)
        · try (exfalso; first | omega | (simp only [Bool.false_eq_true, reduceCtorEq] at hc2; done) | (refine absurd hc2 ?_; with_reducible assumption) | (refine absurd ?_ hc2; with_reducible assumption))
          all_goals (
           refine K_region ?_
           refine W_move rfl rfl ?_
           refine W_move rfl rfl ?_
           refine W_bslice1 hp Tryd.underlying51 sz3 zv3 rfl  rfl  (fun v0 => [v0]) rfl rfl rfl ?_
           clear hp; intro b23 w hp
           skip
           refine W_append_sl (A := [_]) (B := [(b2, .cells [.string ⟨#[]⟩, .string ⟨#[]⟩, .int .i64 0].toArray 29)]) _ rfl hp rfl Tryd.underlying51 sz3 pb3 zv3 rfl rfl rfl rfl hos (Rd.own hp (by first | exact List.mem_cons_self | exact .tail _ (.head _) | exact .tail _ (.tail _ (.head _)) | exact .tail _ (.tail _ (.tail _ (.head _))) | exact .tail _ (.tail _ (.tail _ (.tail _ (.head _)))) | exact .tail _ (.tail _ (.tail _ (.tail _ (.tail _ (.head _))))) | exact List.mem_append_right _ (.head _) | exact List.mem_append_right _ (.tail _ (.head _)) | exact List.mem_append_right _ (.tail _ (.tail _ (.head _))) | exact .tail _ (List.mem_append_right _ (.head _)) | exact .tail _ (List.mem_append_right _ (.tail _ (.head _))) | assumption | (repeat (first | exact List.mem_cons_self | apply List.mem_append_right | apply List.mem_cons_of_mem))) (List.prefix_refl _)) ?_ ?_ ?_ ?_ rfl ?_
           · rfl
           · first | (simp [Value.oneCell']; done) | (simp [Value.oneCell', strV]; done)
           · (simp only [maxLen]; omega)
           · omega
           clear hp; intro va24 Hs w hos hp
           replace hos := OSn.app (b := [k]) rfl rfl hos
           obtain ⟨Aw, cw, rfl⟩ := hos.form
           refine W_assign rfl rfl ?_
           refine W_nil ?_
           refine N_block_normal ?_
           refine N_then_k ?_
           refine K_region ?_
           refine W_move rfl rfl ?_
           first
             | (refine W_add rfl rfl (wr_i64 ?_) rfl ?_; (focus (omega)))
             | (refine W_add rfl rfl rfl rfl ?_)
           refine W_assign rfl rfl ?_
           refine W_nil ?_
           first
             | (rw [if_pos (UInt8.toNat_inj.1 (show x.toNat = (32 : UInt8).toNat by show x.toNat = 32; omega))] at hpn
                refine N_again (k + 1, .slice Aw (posS (s.take k) 0 ++ [k]).length cw, Hs) (sub_end ?_ ?_) ⟨by rw [hpn]; exact hos, hp.drop (List.sublist_cons_self _ _), hlt⟩ ?_
                · repeat' (first | exact sub_lst_nil (sub_nil _) | refine sub_lst rfl ?_ | (refine sub_lst_eq rfl ?_ ?_; · first | rfl | (simp; done) | (congr 1; omega)))
                · repeat' (first | exact sub_refl _ | exact sub_strip _ _ | refine sub_s_cons rfl ?_ | refine sub_s_lst rfl ?_ | refine sub_s_strip rfl ?_)
                · show _ < _; simp only; omega)
             | (rw [if_neg (fun e => by have : x.toNat = 32 := by { rw [e]; rfl }; omega), List.append_nil] at hpn
                refine N_again (k + 1, .slice Av (posS (s.take k) 0).length cv, Hs) (sub_end ?_ ?_) ⟨by rw [hpn]; exact hos, hp, hlt⟩ ?_
                · repeat' (first | exact sub_lst_nil (sub_nil _) | refine sub_lst rfl ?_ | (refine sub_lst_eq rfl ?_ ?_; · first | rfl | (simp; done) | (congr 1; omega)))
                · repeat' (first | exact sub_refl _ | exact sub_strip _ _ | refine sub_s_cons rfl ?_ | refine sub_s_lst rfl ?_ | refine sub_s_strip rfl ?_)
                · show _ < _; simp only; omega))
        · try (exfalso; first | omega | (simp only [Bool.false_eq_true, reduceCtorEq] at hc2; done) | (refine absurd hc2 ?_; with_reducible assumption) | (refine absurd ?_ hc2; with_reducible assumption))
          all_goals (
           refine K_skip ?_
           refine N_block_normal ?_
           refine N_then_k ?_
           refine K_region ?_
           refine W_move rfl rfl ?_
           first
             | (refine W_add rfl rfl (wr_i64 ?_) rfl ?_; (focus (omega)))
             | (refine W_add rfl rfl rfl rfl ?_)
           refine W_assign rfl rfl ?_
           refine W_nil ?_
           first
             | (rw [if_pos (UInt8.toNat_inj.1 (show x.toNat = (32 : UInt8).toNat by show x.toNat = 32; omega))] at hpn
                refine N_again (k + 1, .slice Aw (posS (s.take k) 0 ++ [k]).length cw, Hs) (sub_end ?_ ?_) ⟨by rw [hpn]; exact hos, hp.drop (List.sublist_cons_self _ _), hlt⟩ ?_
                · repeat' (first | exact sub_lst_nil (sub_nil _) | refine sub_lst rfl ?_ | (refine sub_lst_eq rfl ?_ ?_; · first | rfl | (simp; done) | (congr 1; omega)))
                · repeat' (first | exact sub_refl _ | exact sub_strip _ _ | refine sub_s_cons rfl ?_ | refine sub_s_lst rfl ?_ | refine sub_s_strip rfl ?_)
                · show _ < _; simp only; omega)
             | (rw [if_neg (fun e => by have : x.toNat = 32 := by { rw [e]; rfl }; omega), List.append_nil] at hpn
                refine N_again (k + 1, .slice Av (posS (s.take k) 0).length cv, Hs) (sub_end ?_ ?_) ⟨by rw [hpn]; exact hos, hp, hlt⟩ ?_
                · repeat' (first | exact sub_lst_nil (sub_nil _) | refine sub_lst rfl ?_ | (refine sub_lst_eq rfl ?_ ?_; · first | rfl | (simp; done) | (congr 1; omega)))
                · repeat' (first | exact sub_refl _ | exact sub_strip _ _ | refine sub_s_cons rfl ?_ | refine sub_s_lst rfl ?_ | refine sub_s_strip rfl ?_)
                · show _ < _; simp only; omega)))
     · try (exfalso; first | omega | (simp only [Bool.false_eq_true, reduceCtorEq] at hc1; done) | (refine absurd hc1 ?_; with_reducible assumption) | (refine absurd ?_ hc1; with_reducible assumption))
       all_goals (
        refine K_exit ?_
        refine N_then_exit ?_
        refine N_then_exit ?_
        refine N_block_exit ?_
        refine N_then_k ?_
        refine K_seq ?_
        refine K_seq ?_
        refine K_region ?_
        obtain rfl : k = s.length := by omega
        rw [List.take_length] at hos ⊢
        generalize hPP : posS s 0 = PP at hos hPL ⊢
        by_cases h3 : L.length = 3
        all_goals first
          | (obtain ⟨m, t, v, rfl⟩ := three_list h3
             have hs3 := split_three hL
             have hsl := congrArg List.length hs3
             simp only [List.length_append, List.length_cons, List.length_nil] at hsl
             obtain rfl : PP = [m.length, m.length + 1 + t.length] := hPP.symm.trans (posS_three hL)
             obtain ⟨bb, oo, rfl⟩ := ((OS.rdm (show OS _ _ _ _ _ _ from hos) (w := w) (fun p hq => hp.own p (by simp [hq])))).some (by simp))
          | have hPn : PP.length ≠ 2 := by omega
        all_goals (
         refine W_move rfl rfl ?_
         refine W_len_sl Tryd.underlying51 rfl rfl ?_
         first
           | (refine W_neq_t rfl rfl ?_ rfl ?_; (focus (omega)))
           | (refine W_neq_f rfl rfl ?_ rfl ?_; (focus (omega)))
           | (refine W_neq rfl rfl rfl ?_)
         refine W_move rfl rfl ?_
         first
           | refine W_guard_lit_t rfl ?_
           | refine W_guard_lit_f rfl ?_
           | refine W_guard_lit_u rfl ?_
           | refine W_guard_split_d rfl rfl rfl (fun hg3 => ?_) (fun hg3 => ?_)
           | refine W_guard_split_n rfl rfl rfl (fun hg3 => ?_) (fun hg3 => ?_)
           | refine W_guard_split_nb rfl rfl rfl (fun hg3 => ?_) (fun hg3 => ?_)
           | refine W_guard_split rfl rfl rfl (fun hg3 => ?_) (fun hg3 => ?_)
         all_goals try (exfalso; first | omega | (simp only [Bool.false_eq_true, reduceCtorEq] at hg3; done) | (refine absurd hg3 ?_; with_reducible assumption) | (refine absurd ?_ hg3; with_reducible assumption))
         all_goals (
          first
            | (iterate 7 refine W_guard_no rfl rfl rfl ?_)
            | (iterate 7 refine W_guard_un rfl rfl ?_)
            | (refine W_guard_yes rfl ?_
               refine W_move rfl rfl ?_
               refine W_guard_yes rfl ?_
               refine W_move rfl rfl ?_
               refine W_guard_yes rfl ?_
               refine W_indexAddr_sl Tryd.underlying51 sz3 rfl rfl ?_ ?_ rfl ?_
               (focus (omega))
               (focus (first | omega | (simp; done) | (simp; omega)))
               refine W_guard_yes rfl ?_
               refine W_load_s Tryd.underlying3 rfl rfl (by exact (show w.cell? ⟨bb, oo + (0 : Int).toNat * 1, none⟩ = some (.int .i64 (m.length : Nat)) by exact (OS.rdm (show OS _ _ _ _ _ _ from hos) (w := w) (fun p hq => hp.own p (by simp [hq]))).cell (m := 0) rfl)) rfl ?_
               refine W_guard_yes rfl ?_
               refine W_slice_sh Tryd.underlying9 rfl rfl ?_ ?_ rfl ?_
               (focus (first | omega | (simp; omega) | (simp only [List.length_drop, List.length_take, List.length_append]; omega)))
               (focus (first | omega | (simp; omega) | (simp only [List.length_drop, List.length_take, List.length_append]; omega)))
               refine W_guard_yes rfl ?_
               refine W_pcall hp rfl ((risToken_spec (s.take m.length) (by simp; omega)).eq (congrArg Value.bool (congrArg isToken (cutM hs3 rfl)))) rfl ?_
               clear hp; intro w hp
               refine W_guard_yes rfl ?_
               first
                 | (refine W_not_t rfl rfl ?_)
                 | (refine W_not_f rfl rfl ?_)
                 | (refine W_not rfl rfl ?_))
          first
            | (refine W_pick_t rfl rfl rfl ?_)
            | (refine W_pick_f rfl rfl rfl ?_)
            | (refine W_pick_b rfl rfl rfl rfl ?_)
          refine W_nil ?_
          refine N_then_k ?_
          first
            | refine K_cond_d rfl (fun hc4 => ?_) (fun hc4 => ?_)
            | refine K_cond_n rfl (fun hc4 => ?_) (fun hc4 => ?_)
            | refine K_cond_nb rfl (fun hc4 => ?_) (fun hc4 => ?_)
            | refine K_cond_t rfl (fun hc4 => ?_) (fun hc4 => ?_)
          · try (exfalso; first | omega | (simp only [Bool.false_eq_true, reduceCtorEq] at hc4; done) | (refine absurd hc4 ?_; with_reducible assumption) | (refine absurd ?_ hc4; with_reducible assumption))
            all_goals (
             refine K_seq ?_
             refine K_region ?_
             refine W_build0  ([(.string ⟨#[]⟩), (.string ⟨#[]⟩), (.int .i64 0)]) (by kernel_rfl) rfl ?_
             first
               | (refine W_storeF (A := []) hp rfl sz29 rfl rfl rfl rfl ?_ ?_ ?_ rfl ?_; (focus first | exact Nat.le_of_ble_eq_true rfl | omega | (simp; omega)); (focus first | exact .inl (Nat.zero_le _) | omega); (focus first | (intro v hv; simp at hv; subst hv; rfl) | (simp [Value.oneCell']; done) | (simp [Value.oneCell', strV]; done) | (simp [Value.cells, Value.oneCell', strV]; done)))
               | (refine W_storeF (A := [_]) hp rfl sz29 rfl rfl rfl rfl ?_ ?_ ?_ rfl ?_; (focus first | exact Nat.le_of_ble_eq_true rfl | omega | (simp; omega)); (focus first | exact .inl (Nat.zero_le _) | omega); (focus first | (intro v hv; simp at hv; subst hv; rfl) | (simp [Value.oneCell']; done) | (simp [Value.oneCell', strV]; done) | (simp [Value.cells, Value.oneCell', strV]; done)))
               | (refine W_storeF (A := [_, _]) hp rfl sz29 rfl rfl rfl rfl ?_ ?_ ?_ rfl ?_; (focus first | exact Nat.le_of_ble_eq_true rfl | omega | (simp; omega)); (focus first | exact .inl (Nat.zero_le _) | omega); (focus first | (intro v hv; simp at hv; subst hv; rfl) | (simp [Value.oneCell']; done) | (simp [Value.oneCell', strV]; done) | (simp [Value.cells, Value.oneCell', strV]; done)))
               | (refine W_storeF (A := [_, _, _]) hp rfl sz29 rfl rfl rfl rfl ?_ ?_ ?_ rfl ?_; (focus first | exact Nat.le_of_ble_eq_true rfl | omega | (simp; omega)); (focus first | exact .inl (Nat.zero_le _) | omega); (focus first | (intro v hv; simp at hv; subst hv; rfl) | (simp [Value.oneCell']; done) | (simp [Value.oneCell', strV]; done) | (simp [Value.cells, Value.oneCell', strV]; done)))
               | (refine W_storeF (A := [_, _, _, _]) hp rfl sz29 rfl rfl rfl rfl ?_ ?_ ?_ rfl ?_; (focus first | exact Nat.le_of_ble_eq_true rfl | omega | (simp; omega)); (focus first | exact .inl (Nat.zero_le _) | omega); (focus first | (intro v hv; simp at hv; subst hv; rfl) | (simp [Value.oneCell']; done) | (simp [Value.oneCell', strV]; done) | (simp [Value.cells, Value.oneCell', strV]; done)))
               | (refine W_storeF (A := [_, _, _, _, _]) hp rfl sz29 rfl rfl rfl rfl ?_ ?_ ?_ rfl ?_; (focus first | exact Nat.le_of_ble_eq_true rfl | omega | (simp; omega)); (focus first | exact .inl (Nat.zero_le _) | omega); (focus first | (intro v hv; simp at hv; subst hv; rfl) | (simp [Value.oneCell']; done) | (simp [Value.oneCell', strV]; done) | (simp [Value.cells, Value.oneCell', strV]; done)))
               | (refine W_storeM (A := []) hp rfl sz29 rfl rfl rfl rfl ?_ ?_ ?_ rfl ?_; (focus first | exact Nat.le_of_ble_eq_true rfl | omega | (simp; omega)); (focus first | exact .inl (Nat.zero_le _) | omega); (focus first | (intro v hv; simp at hv; subst hv; rfl) | (simp [Value.oneCell']; done) | (simp [Value.oneCell', strV]; done) | (simp [Value.cells, Value.oneCell', strV]; done)))
               | (refine W_storeM (A := [_]) hp rfl sz29 rfl rfl rfl rfl ?_ ?_ ?_ rfl ?_; (focus first | exact Nat.le_of_ble_eq_true rfl | omega | (simp; omega)); (focus first | exact .inl (Nat.zero_le _) | omega); (focus first | (intro v hv; simp at hv; subst hv; rfl) | (simp [Value.oneCell']; done) | (simp [Value.oneCell', strV]; done) | (simp [Value.cells, Value.oneCell', strV]; done)))
               | (refine W_storeM (A := [_, _]) hp rfl sz29 rfl rfl rfl rfl ?_ ?_ ?_ rfl ?_; (focus first | exact Nat.le_of_ble_eq_true rfl | omega | (simp; omega)); (focus first | exact .inl (Nat.zero_le _) | omega); (focus first | (intro v hv; simp at hv; subst hv; rfl) | (simp [Value.oneCell']; done) | (simp [Value.oneCell', strV]; done) | (simp [Value.cells, Value.oneCell', strV]; done)))
               | (refine W_storeP hp sz29 rfl rfl rfl rfl (by repeat (first | exact Pick.here | apply Pick.cons | apply Pick.app)) ?_ ?_ ?_ rfl ?_; (focus first | exact Nat.le_of_ble_eq_true rfl | omega | (simp; omega)); (focus first | exact .inl (Nat.zero_le _) | omega); (focus first | (intro v hv; simp at hv; subst hv; rfl) | (simp [Value.oneCell']; done) | (simp [Value.oneCell', strV]; done) | (simp [Value.cells, Value.oneCell', strV]; done)))
             clear hp; intro w hp
             simp only [List.nil_append, List.cons_append, List.append_nil, List.take_succ_cons, List.take_zero, List.drop_succ_cons, List.drop_zero, List.take_nil, List.drop_nil, Nat.zero_add, Nat.add_zero, Nat.reduceAdd, Int.reduceToNat, Int.toNat_natCast, Nat.reduceMul, Nat.mul_one, Nat.zero_mul] at hp
             refine W_assign rfl rfl ?_
             refine W_assign rfl rfl ?_
             refine W_nil ?_
             refine N_then_k ?_
             refine K_ret ?_
             refine N_then_ret ?_
             refine N_doneL (.inr rfl) rfl (RVs_cons (RV_agg rfl Tryd.underlying29 rfl sz29 hp (by first | exact List.mem_cons_self | exact .tail _ (.head _) | exact .tail _ (.tail _ (.head _)) | exact .tail _ (.tail _ (.tail _ (.head _))) | exact .tail _ (.tail _ (.tail _ (.tail _ (.head _)))) | exact .tail _ (.tail _ (.tail _ (.tail _ (.tail _ (.head _))))) | exact List.mem_append_right _ (.head _) | exact List.mem_append_right _ (.tail _ (.head _)) | exact List.mem_append_right _ (.tail _ (.tail _ (.head _))) | exact .tail _ (List.mem_append_right _ (.head _)) | exact .tail _ (List.mem_append_right _ (.tail _ (.head _))) | assumption | (repeat (first | exact List.mem_cons_self | apply List.mem_append_right | apply List.mem_cons_of_mem))) (by first | rfl | (simp; done))) (RVs_cons (RV_tmp rfl) (RVs_cons (RV_tmp rfl) (RVs_nil)))) rfl ?_
             refine ⟨_, rfl, ?_, hp.nil⟩
             try rw [show (((m.length + 1 + t.length : Nat) : Int) + 1) = ((m.length + t.length + 2 : Nat) : Int) by omega]
             try rw [show List.take (m.length : Int).toNat s = m from cutM hs3 rfl]
             try rw [show List.take m.length s = m from cutM hs3 rfl]
             first
               | (rw [← hL, reqL_no h3]; rfl)
               | (rw [← hL, reqL1 (by assumption)]; rfl)
               | (have e : t = [] := by assumption
                  rw [← hL, reqL2 htk (by rw [e]; rfl)]; rfl)
               | (rw [← hL, reqL2 htk (by unfold tgtB; rw [all_not hx (decide_eq_false (by omega))]; simp)]; rfl)
               | (rw [← hL, reqL4 htk htg hver (by unfold supB; rw [decide_eq_false (by assumption), decide_eq_false (by assumption)]; rfl)]; rfl)
               | (have e : v = [72, 84, 84, 80, 47, 49, 46, 49] := by assumption
                  rw [← hL, reqL5 htk htg hver (by rw [e]; rfl), e]; rfl)
               | (have e : v = [72, 84, 84, 80, 47, 49, 46, 48] := by assumption
                  rw [← hL, reqL5 htk htg hver (by rw [e]; rfl), e]; rfl)
               | (rw [← hL, reqL3 htk htg (ver_no2 (by omega))]; rfl)
               | (rw [← hL, reqL3 htk htg (ver_no1 (by assumption))]; rfl)
               | (rw [← hL, reqL3 htk htg (by rw [ver_of (by assumption) (by omega) h5v h6v h7v]; unfold digitB; rw [decide_eq_false ‹¬ DigitP c5.toNat›]; simp)]; rfl)
               | (rw [← hL, reqL3 htk htg (by rw [ver_of (by assumption) (by omega) h5v h6v h7v]; unfold digitB; rw [decide_eq_false ‹¬ DigitP c7.toNat›]; simp)]; rfl)
               | (rw [← hL, reqL3 htk htg (by rw [ver_of (by assumption) (by omega) h5v h6v h7v, decide_eq_false (fun e : c6 = 46 => by have : c6.toNat = 46 := by { rw [e]; rfl }; omega)]; simp)]; rfl))
          · try (exfalso; first | omega | (simp only [Bool.false_eq_true, reduceCtorEq] at hc4; done) | (refine absurd hc4 ?_; with_reducible assumption) | (refine absurd ?_ hc4; with_reducible assumption))
            all_goals (
             refine K_skip ?_
             refine N_then_k ?_
             refine K_seq ?_
             refine K_quiet hm hp (by kernel_rfl) ?_
             clear hp
             refine Wq_val (fun w hp => R_move rfl) rfl ?_
             refine Wq_val (fun w hp => R_move rfl) rfl ?_
             refine Wq_val (fun w hp => R_indexAddr_sl Tryd.underlying51 sz3 rfl rfl ?_ ?_) rfl ?_
             (focus (omega))
             (focus (first | omega | (simp; done) | (simp; omega)))
             refine Wq_val (fun w hp => R_load_s Tryd.underlying3 rfl rfl (by exact (show w.cell? ⟨bb, oo + (0 : Int).toNat * 1, none⟩ = some (.int .i64 (m.length : Nat)) by exact (OS.rdm (show OS _ _ _ _ _ _ from hos) (w := w) (fun p hq => hp.own p (by simp [hq]))).cell (m := 0) rfl))) rfl ?_
             first
               | (refine Wq_val (fun w hp => R_add rfl rfl (wr_i64 ?_)) rfl ?_; (focus (omega)))
               | (refine Wq_val (fun w hp => R_add rfl rfl rfl) rfl ?_)
             refine Wq_val (fun w hp => R_move rfl) rfl ?_
             refine Wq_val (fun w hp => R_indexAddr_sl Tryd.underlying51 sz3 rfl rfl ?_ ?_) rfl ?_
             (focus (omega))
             (focus (first | omega | (simp; done) | (simp; omega)))
             refine Wq_val (fun w hp => R_load_s Tryd.underlying3 rfl rfl (by exact (show w.cell? ⟨bb, oo + (1 : Int).toNat * 1, none⟩ = some (.int .i64 ((m.length + 1 + t.length : Nat) : Int)) by exact (OS.rdm (show OS _ _ _ _ _ _ from hos) (w := w) (fun p hq => hp.own p (by simp [hq]))).cell (m := 1) rfl))) rfl ?_
             refine Wq_val (fun w hp => R_slice_slh Tryd.underlying9 rfl rfl rfl ?_ ?_ ?_) rfl ?_
             (focus (first | omega | (simp; omega) | (simp only [List.length_drop, List.length_take, List.length_append]; omega)))
             (focus (first | omega | (simp; omega) | (simp only [List.length_drop, List.length_take, List.length_append]; omega)))
             (focus (first | omega | (simp; omega) | (simp only [List.length_drop, List.length_take, List.length_append]; omega)))
             refine Wq_val (fun w hp => R_assign rfl) rfl ?_
             refine Wq_end ?_
             intro w hp
             refine N_then_k ?_
             refine K_seq ?_
             refine K_seq ?_
             refine K_region ?_
             have htk : isToken m = true := by assumption
             generalize hT : List.take _ (List.drop _ s) = T0
             obtain rfl : t = T0 := by rw [← hT]; exact (cutT hs3 (by omega) (by omega)).symm
             refine W_move rfl rfl ?_
             first
               | (refine W_seql_t rfl rfl ?_ rfl ?_; (focus (first | rfl | assumption)))
               | (refine W_seql_f rfl rfl ?_ rfl ?_; (focus (first | assumption | decide | exact List.cons_ne_nil _ _)))
               | (refine W_seql rfl rfl rfl ?_)
             refine W_nil ?_
             refine N_then_k ?_
             first
               | refine K_cond_d rfl (fun hc5 => ?_) (fun hc5 => ?_)
               | refine K_cond_n rfl (fun hc5 => ?_) (fun hc5 => ?_)
               | refine K_cond_nb rfl (fun hc5 => ?_) (fun hc5 => ?_)
               | refine K_cond_t rfl (fun hc5 => ?_) (fun hc5 => ?_)
             · try (exfalso; first | omega | (simp only [Bool.false_eq_true, reduceCtorEq] at hc5; done) | (refine absurd hc5 ?_; with_reducible assumption) | (refine absurd ?_ hc5; with_reducible assumption))
               all_goals (
                refine K_seq ?_
                refine K_heldp (.first 0 (.first 1 (.first 2 (.first 3 (.first 4 (.only 5 (.first 6 (.first 7 .done)))))))) hm hp (by kernel_rfl) (by kernel_rfl) (.first rfl (.first rfl (.first rfl (.first rfl (.first rfl (.only rfl (.first rfl (.first rfl .done)))))))) ?_
                clear hp; intro w hp
                refine Wh_val (by first | exact hp | (refine hp.drop ?_; repeat (first | exact List.Sublist.refl _ | exact List.nil_sublist _ | refine List.Sublist.cons_cons _ ?_ | apply List.sublist_append_of_sublist_right | apply List.Sublist.cons))) (fun w hp => R_build0  ([(.string ⟨#[]⟩), (.string ⟨#[]⟩), (.int .i64 0)]) (by kernel_rfl)) rfl ?_
                refine Wh_val (by first | exact hp | (refine hp.drop ?_; repeat (first | exact List.Sublist.refl _ | exact List.nil_sublist _ | refine List.Sublist.cons_cons _ ?_ | apply List.sublist_append_of_sublist_right | apply List.Sublist.cons))) (fun w hp => R_move rfl) rfl ?_
                refine Wh_val (by first | exact hp | (refine hp.drop ?_; repeat (first | exact List.Sublist.refl _ | exact List.nil_sublist _ | refine List.Sublist.cons_cons _ ?_ | apply List.sublist_append_of_sublist_right | apply List.Sublist.cons))) (fun w hp => R_indexAddr_sl Tryd.underlying51 sz3 rfl rfl ?_ ?_) rfl ?_
                (focus (omega))
                (focus (first | omega | (simp; done) | (simp; omega)))
                refine Wh_val (by first | exact hp | (refine hp.drop ?_; repeat (first | exact List.Sublist.refl _ | exact List.nil_sublist _ | refine List.Sublist.cons_cons _ ?_ | apply List.sublist_append_of_sublist_right | apply List.Sublist.cons))) (fun w hp => R_load_s Tryd.underlying3 rfl rfl (by exact (show w.cell? ⟨bb, oo + (0 : Int).toNat * 1, none⟩ = some (.int .i64 (m.length : Nat)) by exact (OS.rdm (show OS _ _ _ _ _ _ from hos) (w := w) (fun p hq => hp.own p (by simp [hq]))).cell (m := 0) rfl))) rfl ?_
                first
                  | (refine Wh_val (by first | exact hp | (refine hp.drop ?_; repeat (first | exact List.Sublist.refl _ | exact List.nil_sublist _ | refine List.Sublist.cons_cons _ ?_ | apply List.sublist_append_of_sublist_right | apply List.Sublist.cons))) (fun w hp => R_add rfl rfl (wr_i64 ?_)) rfl ?_; (focus (omega)))
                  | (refine Wh_val (by first | exact hp | (refine hp.drop ?_; repeat (first | exact List.Sublist.refl _ | exact List.nil_sublist _ | refine List.Sublist.cons_cons _ ?_ | apply List.sublist_append_of_sublist_right | apply List.Sublist.cons))) (fun w hp => R_add rfl rfl rfl) rfl ?_)
                refine Wh_step ?_
                refine W_storeF (A := Hs) (B := []) (cs := [.string ⟨#[]⟩, .string ⟨#[]⟩, .int .i64 0]) hp rfl sz29 rfl rfl rfl rfl ?_ ?_ ?_ rfl ?_
                · decide
                · exact .inl (Nat.zero_le _)
                · simp [Value.oneCell']
                clear hp; intro w hp
                refine W_nil ?_
                refine Wh_next (by first | exact hp | (refine hp.drop ?_; repeat (first | exact List.Sublist.refl _ | exact List.nil_sublist _ | refine List.Sublist.cons_cons _ ?_ | apply List.sublist_append_of_sublist_right | apply List.Sublist.cons))) ?_
                refine Wh_val (by first | exact hp | (refine hp.drop ?_; repeat (first | exact List.Sublist.refl _ | exact List.nil_sublist _ | refine List.Sublist.cons_cons _ ?_ | apply List.sublist_append_of_sublist_right | apply List.Sublist.cons))) (fun w hp => R_assign rfl) rfl ?_
                refine Wh_val (by first | exact hp | (refine hp.drop ?_; repeat (first | exact List.Sublist.refl _ | exact List.nil_sublist _ | refine List.Sublist.cons_cons _ ?_ | apply List.sublist_append_of_sublist_right | apply List.Sublist.cons))) (fun w hp => R_assign rfl) rfl ?_
                refine Wh_nil ?_
                refine N_then_k ?_
                refine K_ret ?_
                refine N_then_ret ?_
                refine N_doneL (.inr rfl) rfl (RVs_cons (RV_agg rfl Tryd.underlying29 rfl sz29 hp (by first | exact List.mem_cons_self | exact .tail _ (.head _) | exact .tail _ (.tail _ (.head _)) | exact .tail _ (.tail _ (.tail _ (.head _))) | exact .tail _ (.tail _ (.tail _ (.tail _ (.head _)))) | exact .tail _ (.tail _ (.tail _ (.tail _ (.tail _ (.head _))))) | exact List.mem_append_right _ (.head _) | exact List.mem_append_right _ (.tail _ (.head _)) | exact List.mem_append_right _ (.tail _ (.tail _ (.head _))) | exact .tail _ (List.mem_append_right _ (.head _)) | exact .tail _ (List.mem_append_right _ (.tail _ (.head _))) | assumption | (repeat (first | exact List.mem_cons_self | apply List.mem_append_right | apply List.mem_cons_of_mem))) (by first | rfl | (simp; done))) (RVs_cons (RV_tmp rfl) (RVs_cons (RV_tmp rfl) (RVs_nil)))) rfl ?_
                refine ⟨_, rfl, ?_, hp.nil⟩
                try rw [show (((m.length + 1 + t.length : Nat) : Int) + 1) = ((m.length + t.length + 2 : Nat) : Int) by omega]
                try rw [show List.take (m.length : Int).toNat s = m from cutM hs3 rfl]
                try rw [show List.take m.length s = m from cutM hs3 rfl]
                first
                  | (rw [← hL, reqL_no h3]; rfl)
                  | (rw [← hL, reqL1 (by assumption)]; rfl)
                  | (have e : t = [] := by assumption
                     rw [← hL, reqL2 htk (by rw [e]; rfl)]; rfl)
                  | (rw [← hL, reqL2 htk (by unfold tgtB; rw [all_not hx (decide_eq_false (by omega))]; simp)]; rfl)
                  | (rw [← hL, reqL4 htk htg hver (by unfold supB; rw [decide_eq_false (by assumption), decide_eq_false (by assumption)]; rfl)]; rfl)
                  | (have e : v = [72, 84, 84, 80, 47, 49, 46, 49] := by assumption
                     rw [← hL, reqL5 htk htg hver (by rw [e]; rfl), e]; rfl)
                  | (have e : v = [72, 84, 84, 80, 47, 49, 46, 48] := by assumption
                     rw [← hL, reqL5 htk htg hver (by rw [e]; rfl), e]; rfl)
                  | (rw [← hL, reqL3 htk htg (ver_no2 (by omega))]; rfl)
                  | (rw [← hL, reqL3 htk htg (ver_no1 (by assumption))]; rfl)
                  | (rw [← hL, reqL3 htk htg (by rw [ver_of (by assumption) (by omega) h5v h6v h7v]; unfold digitB; rw [decide_eq_false ‹¬ DigitP c5.toNat›]; simp)]; rfl)
                  | (rw [← hL, reqL3 htk htg (by rw [ver_of (by assumption) (by omega) h5v h6v h7v]; unfold digitB; rw [decide_eq_false ‹¬ DigitP c7.toNat›]; simp)]; rfl)
                  | (rw [← hL, reqL3 htk htg (by rw [ver_of (by assumption) (by omega) h5v h6v h7v, decide_eq_false (fun e : c6 = 46 => by have : c6.toNat = 46 := by { rw [e]; rfl }; omega)]; simp)]; rfl))
             · try (exfalso; first | omega | (simp only [Bool.false_eq_true, reduceCtorEq] at hc5; done) | (refine absurd hc5 ?_; with_reducible assumption) | (refine absurd ?_ hc5; with_reducible assumption))
               all_goals (
                refine K_skip ?_
                refine N_then_k ?_
                refine K_seq ?_
                refine K_seq ?_
                refine K_region ?_
                refine W_assign rfl rfl ?_
                refine W_nil ?_
                refine N_then_k ?_
                refine K_block ?_
                refine K_loop (σ := Nat) [3, 4, 8, 54, 55, 56, 57, 58, 59, 60, 61, 62, 63, 64, 65, 66, 67, 68, 69, 70, 71, 72, 73, 74]
                    (fun q => [(8, .int .i64 q)])
                    (fun q w => Hp w0 [] (Hs ++ [(b2, .cells [.string ⟨#[]⟩, .string ⟨#[]⟩, .int .i64 0].toArray 29)]) w ∧ q ≤ t.length ∧ (t.take q).all visB = true)
                    (fun q => t.length - q) (0) ?_ ?_ ?_
                · repeat' (first | exact sub_lst_nil (sub_nil _) | refine sub_lst rfl ?_ | (refine sub_lst_eq rfl ?_ ?_; · first | rfl | (simp; done) | (congr 1; omega)))
                · exact ⟨hp, Nat.zero_le _, by simp⟩
                · intro q w hJ
                  clear hp
                  obtain ⟨hp, hleq, hall⟩ := hJ
                  rcases Nat.lt_or_ge q t.length with hlt | hge
                  all_goals (
                   refine K_seq ?_
                   refine K_seq ?_
                   refine K_region ?_
                   refine W_move rfl rfl ?_
                   refine W_move rfl rfl ?_
                   refine W_len_s Tryd.underlying9 rfl rfl ?_
                   first
                     | (refine W_lss_t rfl rfl ?_ rfl ?_; (focus (omega)))
                     | (refine W_lss_f rfl rfl ?_ rfl ?_; (focus (omega)))
                     | (refine W_lss rfl rfl rfl ?_)
                   refine W_nil ?_
                   refine N_then_k ?_
                   first
                     | refine K_cond_d rfl (fun hc6 => ?_) (fun hc6 => ?_)
                     | refine K_cond_n rfl (fun hc6 => ?_) (fun hc6 => ?_)
                     | refine K_cond_nb rfl (fun hc6 => ?_) (fun hc6 => ?_)
                     | refine K_cond_t rfl (fun hc6 => ?_) (fun hc6 => ?_)
                   · try (exfalso; first | omega | (simp only [Bool.false_eq_true, reduceCtorEq] at hc6; done) | (refine absurd hc6 ?_; with_reducible assumption) | (refine absurd ?_ hc6; with_reducible assumption))
                     all_goals (
                      refine K_skip ?_
                      refine N_then_k ?_
                      refine K_seq ?_
                      refine K_block ?_
                      refine K_seq ?_
                      refine K_region ?_
                      obtain ⟨x, hx⟩ : ∃ x, t[q]? = some x := ⟨_, List.getElem?_eq_getElem hlt⟩
                      have hu := x.toNat_lt
                      refine W_move rfl rfl ?_
                      refine W_move rfl rfl ?_
                      refine W_index_s (b := x) Tryd.underlying9 rfl rfl (by omega) (by exact hx) rfl ?_
                      first
                        | (refine W_lss_t rfl rfl ?_ rfl ?_; (focus (omega)))
                        | (refine W_lss_f rfl rfl ?_ rfl ?_; (focus (omega)))
                        | (refine W_lss rfl rfl rfl ?_)
                      refine W_move rfl rfl ?_
                      first
                        | refine W_guard_lit_t rfl ?_
                        | refine W_guard_lit_f rfl ?_
                        | refine W_guard_lit_u rfl ?_
                        | refine W_guard_split_d rfl rfl rfl (fun hg7 => ?_) (fun hg7 => ?_)
                        | refine W_guard_split_n rfl rfl rfl (fun hg7 => ?_) (fun hg7 => ?_)
                        | refine W_guard_split_nb rfl rfl rfl (fun hg7 => ?_) (fun hg7 => ?_)
                        | refine W_guard_split rfl rfl rfl (fun hg7 => ?_) (fun hg7 => ?_)
                      all_goals try (exfalso; first | omega | (simp only [Bool.false_eq_true, reduceCtorEq] at hg7; done) | (refine absurd hg7 ?_; with_reducible assumption) | (refine absurd ?_ hg7; with_reducible assumption))
                      all_goals (
                       first
                         | (iterate 4 refine W_guard_no rfl rfl rfl ?_)
                         | (iterate 4 refine W_guard_un rfl rfl ?_)
                         | (refine W_guard_yes rfl ?_
                            refine W_move rfl rfl ?_
                            refine W_guard_yes rfl ?_
                            refine W_move rfl rfl ?_
                            refine W_guard_yes rfl ?_
                            refine W_index_s (b := x) Tryd.underlying9 rfl rfl (by omega) (by exact hx) rfl ?_
                            refine W_guard_yes rfl ?_
                            first
                              | (refine W_gtr_t rfl rfl ?_ rfl ?_; (focus (omega)))
                              | (refine W_gtr_f rfl rfl ?_ rfl ?_; (focus (omega)))
                              | (refine W_gtr rfl rfl rfl ?_))
                       first
                         | (refine W_pick_t rfl rfl rfl ?_)
                         | (refine W_pick_f rfl rfl rfl ?_)
                         | (refine W_pick_b rfl rfl rfl rfl ?_)
                       refine W_nil ?_
                       refine N_then_k ?_
                       first
                         | refine K_cond_d rfl (fun hc8 => ?_) (fun hc8 => ?_)
                         | refine K_cond_n rfl (fun hc8 => ?_) (fun hc8 => ?_)
                         | refine K_cond_nb rfl (fun hc8 => ?_) (fun hc8 => ?_)
                         | refine K_cond_t rfl (fun hc8 => ?_) (fun hc8 => ?_)
                       · try (exfalso; first | omega | (simp only [Bool.false_eq_true, reduceCtorEq] at hc8; done) | (refine absurd hc8 ?_; with_reducible assumption) | (refine absurd ?_ hc8; with_reducible assumption))
                         all_goals (
                          refine K_seq ?_
                          refine K_heldp (.first 0 (.first 1 (.first 2 (.first 3 (.first 4 (.only 5 (.first 6 (.first 7 .done)))))))) hm hp (by kernel_rfl) (by kernel_rfl) (.first rfl (.first rfl (.first rfl (.first rfl (.first rfl (.only rfl (.first rfl (.first rfl .done)))))))) ?_
                          clear hp; intro w hp
                          refine Wh_val (by first | exact hp | (refine hp.drop ?_; repeat (first | exact List.Sublist.refl _ | exact List.nil_sublist _ | refine List.Sublist.cons_cons _ ?_ | apply List.sublist_append_of_sublist_right | apply List.Sublist.cons))) (fun w hp => R_build0  ([(.string ⟨#[]⟩), (.string ⟨#[]⟩), (.int .i64 0)]) (by kernel_rfl)) rfl ?_
                          refine Wh_val (by first | exact hp | (refine hp.drop ?_; repeat (first | exact List.Sublist.refl _ | exact List.nil_sublist _ | refine List.Sublist.cons_cons _ ?_ | apply List.sublist_append_of_sublist_right | apply List.Sublist.cons))) (fun w hp => R_move rfl) rfl ?_
                          refine Wh_val (by first | exact hp | (refine hp.drop ?_; repeat (first | exact List.Sublist.refl _ | exact List.nil_sublist _ | refine List.Sublist.cons_cons _ ?_ | apply List.sublist_append_of_sublist_right | apply List.Sublist.cons))) (fun w hp => R_indexAddr_sl Tryd.underlying51 sz3 rfl rfl ?_ ?_) rfl ?_
                          (focus (omega))
                          (focus (first | omega | (simp; done) | (simp; omega)))
                          refine Wh_val (by first | exact hp | (refine hp.drop ?_; repeat (first | exact List.Sublist.refl _ | exact List.nil_sublist _ | refine List.Sublist.cons_cons _ ?_ | apply List.sublist_append_of_sublist_right | apply List.Sublist.cons))) (fun w hp => R_load_s Tryd.underlying3 rfl rfl (by exact (show w.cell? ⟨bb, oo + (0 : Int).toNat * 1, none⟩ = some (.int .i64 (m.length : Nat)) by exact (OS.rdm (show OS _ _ _ _ _ _ from hos) (w := w) (fun p hq => hp.own p (by simp [hq]))).cell (m := 0) rfl))) rfl ?_
                          first
                            | (refine Wh_val (by first | exact hp | (refine hp.drop ?_; repeat (first | exact List.Sublist.refl _ | exact List.nil_sublist _ | refine List.Sublist.cons_cons _ ?_ | apply List.sublist_append_of_sublist_right | apply List.Sublist.cons))) (fun w hp => R_add rfl rfl (wr_i64 ?_)) rfl ?_; (focus (omega)))
                            | (refine Wh_val (by first | exact hp | (refine hp.drop ?_; repeat (first | exact List.Sublist.refl _ | exact List.nil_sublist _ | refine List.Sublist.cons_cons _ ?_ | apply List.sublist_append_of_sublist_right | apply List.Sublist.cons))) (fun w hp => R_add rfl rfl rfl) rfl ?_)
                          refine Wh_step ?_
                          refine W_storeF (A := Hs) (B := []) (cs := [.string ⟨#[]⟩, .string ⟨#[]⟩, .int .i64 0]) hp rfl sz29 rfl rfl rfl rfl ?_ ?_ ?_ rfl ?_
                          · decide
                          · exact .inl (Nat.zero_le _)
                          · simp [Value.oneCell']
                          clear hp; intro w hp
                          refine W_nil ?_
                          refine Wh_next (by first | exact hp | (refine hp.drop ?_; repeat (first | exact List.Sublist.refl _ | exact List.nil_sublist _ | refine List.Sublist.cons_cons _ ?_ | apply List.sublist_append_of_sublist_right | apply List.Sublist.cons))) ?_
                          refine Wh_val (by first | exact hp | (refine hp.drop ?_; repeat (first | exact List.Sublist.refl _ | exact List.nil_sublist _ | refine List.Sublist.cons_cons _ ?_ | apply List.sublist_append_of_sublist_right | apply List.Sublist.cons))) (fun w hp => R_assign rfl) rfl ?_
                          refine Wh_val (by first | exact hp | (refine hp.drop ?_; repeat (first | exact List.Sublist.refl _ | exact List.nil_sublist _ | refine List.Sublist.cons_cons _ ?_ | apply List.sublist_append_of_sublist_right | apply List.Sublist.cons))) (fun w hp => R_assign rfl) rfl ?_
                          refine Wh_nil ?_
                          refine N_then_k ?_
                          refine K_ret ?_
                          refine N_block_ret ?_
                          refine N_then_ret ?_
                          refine N_then_ret ?_
                          refine N_block_ret ?_
                          refine N_then_ret ?_
                          refine N_doneL (.inr rfl) rfl (RVs_cons (RV_agg rfl Tryd.underlying29 rfl sz29 hp (by first | exact List.mem_cons_self | exact .tail _ (.head _) | exact .tail _ (.tail _ (.head _)) | exact .tail _ (.tail _ (.tail _ (.head _))) | exact .tail _ (.tail _ (.tail _ (.tail _ (.head _)))) | exact .tail _ (.tail _ (.tail _ (.tail _ (.tail _ (.head _))))) | exact List.mem_append_right _ (.head _) | exact List.mem_append_right _ (.tail _ (.head _)) | exact List.mem_append_right _ (.tail _ (.tail _ (.head _))) | exact .tail _ (List.mem_append_right _ (.head _)) | exact .tail _ (List.mem_append_right _ (.tail _ (.head _))) | assumption | (repeat (first | exact List.mem_cons_self | apply List.mem_append_right | apply List.mem_cons_of_mem))) (by first | rfl | (simp; done))) (RVs_cons (RV_tmp rfl) (RVs_cons (RV_tmp rfl) (RVs_nil)))) rfl ?_
                          refine ⟨_, rfl, ?_, hp.nil⟩
                          try rw [show (((m.length + 1 + t.length : Nat) : Int) + 1) = ((m.length + t.length + 2 : Nat) : Int) by omega]
                          try rw [show List.take (m.length : Int).toNat s = m from cutM hs3 rfl]
                          try rw [show List.take m.length s = m from cutM hs3 rfl]
                          first
                            | (rw [← hL, reqL_no h3]; rfl)
                            | (rw [← hL, reqL1 (by assumption)]; rfl)
                            | (have e : t = [] := by assumption
                               rw [← hL, reqL2 htk (by rw [e]; rfl)]; rfl)
                            | (rw [← hL, reqL2 htk (by unfold tgtB; rw [all_not hx (decide_eq_false (by omega))]; simp)]; rfl)
                            | (rw [← hL, reqL4 htk htg hver (by unfold supB; rw [decide_eq_false (by assumption), decide_eq_false (by assumption)]; rfl)]; rfl)
                            | (have e : v = [72, 84, 84, 80, 47, 49, 46, 49] := by assumption
                               rw [← hL, reqL5 htk htg hver (by rw [e]; rfl), e]; rfl)
                            | (have e : v = [72, 84, 84, 80, 47, 49, 46, 48] := by assumption
                               rw [← hL, reqL5 htk htg hver (by rw [e]; rfl), e]; rfl)
                            | (rw [← hL, reqL3 htk htg (ver_no2 (by omega))]; rfl)
                            | (rw [← hL, reqL3 htk htg (ver_no1 (by assumption))]; rfl)
                            | (rw [← hL, reqL3 htk htg (by rw [ver_of (by assumption) (by omega) h5v h6v h7v]; unfold digitB; rw [decide_eq_false ‹¬ DigitP c5.toNat›]; simp)]; rfl)
                            | (rw [← hL, reqL3 htk htg (by rw [ver_of (by assumption) (by omega) h5v h6v h7v]; unfold digitB; rw [decide_eq_false ‹¬ DigitP c7.toNat›]; simp)]; rfl)
                            | (rw [← hL, reqL3 htk htg (by rw [ver_of (by assumption) (by omega) h5v h6v h7v, decide_eq_false (fun e : c6 = 46 => by have : c6.toNat = 46 := by { rw [e]; rfl }; omega)]; simp)]; rfl))
                       · try (exfalso; first | omega | (simp only [Bool.false_eq_true, reduceCtorEq] at hc8; done) | (refine absurd hc8 ?_; with_reducible assumption) | (refine absurd ?_ hc8; with_reducible assumption))
                         all_goals (
                          refine K_skip ?_
                          refine N_block_normal ?_
                          refine N_then_k ?_
                          refine K_region ?_
                          refine W_move rfl rfl ?_
                          first
                            | (refine W_add rfl rfl (wr_i64 ?_) rfl ?_; (focus (omega)))
                            | (refine W_add rfl rfl rfl rfl ?_)
                          refine W_assign rfl rfl ?_
                          refine W_nil ?_
                          refine N_again (q + 1) (sub_end ?_ ?_) ?_ ?_
                          · repeat' (first | exact sub_lst_nil (sub_nil _) | refine sub_lst rfl ?_ | (refine sub_lst_eq rfl ?_ ?_; · first | rfl | (simp; done) | (congr 1; omega)))
                          · repeat' (first | exact sub_refl _ | exact sub_strip _ _ | refine sub_s_cons rfl ?_ | refine sub_s_lst rfl ?_ | refine sub_s_strip rfl ?_)
                          · refine ⟨hp, hlt, ?_⟩
                            rw [all_take hx, hall]; exact (Bool.true_and _).trans (decide_eq_true (by omega))
                          · omega)))
                   · try (exfalso; first | omega | (simp only [Bool.false_eq_true, reduceCtorEq] at hc6; done) | (refine absurd hc6 ?_; with_reducible assumption) | (refine absurd ?_ hc6; with_reducible assumption))
                     all_goals (
                      refine K_exit ?_
                      refine N_then_exit ?_
                      refine N_then_exit ?_
                      refine N_block_exit ?_
                      refine N_then_k ?_
                      refine K_seq ?_
                      refine K_region ?_
                      refine W_move rfl rfl ?_
                      refine W_move rfl rfl ?_
                      refine W_indexAddr_sl Tryd.underlying51 sz3 rfl rfl ?_ ?_ rfl ?_
                      (focus (omega))
                      (focus (first | omega | (simp; done) | (simp; omega)))
                      refine W_load_s Tryd.underlying3 rfl rfl (by exact (show w.cell? ⟨bb, oo + (1 : Int).toNat * 1, none⟩ = some (.int .i64 ((m.length + 1 + t.length : Nat) : Int)) by exact (OS.rdm (show OS _ _ _ _ _ _ from hos) (w := w) (fun p hq => hp.own p (by simp [hq]))).cell (m := 1) rfl)) rfl ?_
                      first
                        | (refine W_add rfl rfl (wr_i64 ?_) rfl ?_; (focus (omega)))
                        | (refine W_add rfl rfl rfl rfl ?_)
                      refine W_slice_sl Tryd.underlying9 rfl rfl ?_ ?_ rfl ?_
                      (focus (first | omega | (simp; omega) | (simp only [List.length_drop, List.length_take, List.length_append]; omega)))
                      (focus (first | omega | (simp; omega) | (simp only [List.length_drop, List.length_take, List.length_append]; omega)))
                      refine W_assign rfl rfl ?_
                      refine W_nil ?_
                      refine N_then_k ?_
                      refine K_seq ?_
                      refine K_seq ?_
                      refine K_region ?_
                      generalize hV : List.drop _ s = V0
                      obtain rfl : v = V0 := by rw [← hV]; exact (cutV hs3 (by omega)).symm
                      rw [List.take_of_length_le hge] at hall
                      have htg : tgtB t = true := by unfold tgtB; rw [hall]; cases t with | nil => exact absurd rfl (by assumption) | cons => rfl
                      refine W_move rfl rfl ?_
                      refine W_len_s Tryd.underlying9 rfl rfl ?_
                      first
                        | (refine W_neq_t rfl rfl ?_ rfl ?_; (focus (omega)))
                        | (refine W_neq_f rfl rfl ?_ rfl ?_; (focus (omega)))
                        | (refine W_neq rfl rfl rfl ?_)
                      refine W_move rfl rfl ?_
                      first
                        | refine W_guard_lit_t rfl ?_
                        | refine W_guard_lit_f rfl ?_
                        | refine W_guard_lit_u rfl ?_
                        | refine W_guard_split_d rfl rfl rfl (fun hg9 => ?_) (fun hg9 => ?_)
                        | refine W_guard_split_n rfl rfl rfl (fun hg9 => ?_) (fun hg9 => ?_)
                        | refine W_guard_split_nb rfl rfl rfl (fun hg9 => ?_) (fun hg9 => ?_)
                        | refine W_guard_split rfl rfl rfl (fun hg9 => ?_) (fun hg9 => ?_)
                      all_goals try (exfalso; first | omega | (simp only [Bool.false_eq_true, reduceCtorEq] at hg9; done) | (refine absurd hg9 ?_; with_reducible assumption) | (refine absurd ?_ hg9; with_reducible assumption))
                      all_goals (
                       first
                         | (iterate 3 refine W_guard_no rfl rfl rfl ?_)
                         | (iterate 3 refine W_guard_un rfl rfl ?_)
                         | (refine W_guard_yes rfl ?_
                            refine W_move rfl rfl ?_
                            refine W_guard_yes rfl ?_
                            refine W_slice_sh Tryd.underlying9 rfl rfl ?_ ?_ rfl ?_
                            (focus (first | omega | (simp; omega) | (simp only [List.length_drop, List.length_take, List.length_append]; omega)))
                            (focus (first | omega | (simp; omega) | (simp only [List.length_drop, List.length_take, List.length_append]; omega)))
                            refine W_guard_yes rfl ?_
                            first
                              | (refine W_sneq_f rfl rfl ?_ rfl ?_; (focus (first | rfl | assumption)))
                              | (refine W_sneq_t rfl rfl ?_ rfl ?_; (focus (first | assumption | decide | exact List.cons_ne_nil _ _)))
                              | (refine W_sneq rfl rfl rfl ?_))
                       first
                         | (refine W_pick_t rfl rfl rfl ?_)
                         | (refine W_pick_f rfl rfl rfl ?_)
                         | (refine W_pick_b rfl rfl rfl rfl ?_)
                       refine W_move rfl rfl ?_
                       first
                         | refine W_guard_lit_t rfl ?_
                         | refine W_guard_lit_f rfl ?_
                         | refine W_guard_lit_u rfl ?_
                         | refine W_guard_split_d rfl rfl rfl (fun hg10 => ?_) (fun hg10 => ?_)
                         | refine W_guard_split_n rfl rfl rfl (fun hg10 => ?_) (fun hg10 => ?_)
                         | refine W_guard_split_nb rfl rfl rfl (fun hg10 => ?_) (fun hg10 => ?_)
                         | refine W_guard_split rfl rfl rfl (fun hg10 => ?_) (fun hg10 => ?_)
                       all_goals try (exfalso; first | omega | (simp only [Bool.false_eq_true, reduceCtorEq] at hg10; done) | (refine absurd hg10 ?_; with_reducible assumption) | (refine absurd ?_ hg10; with_reducible assumption))
                       all_goals (
                        first
                          | (iterate 4 refine W_guard_no rfl rfl rfl ?_)
                          | (iterate 4 refine W_guard_un rfl rfl ?_)
                          | (refine W_guard_yes rfl ?_
                             refine W_move rfl rfl ?_
                             refine W_guard_yes rfl ?_
                             obtain ⟨c5, h5v⟩ : ∃ x, v[5]? = some x := ⟨_, List.getElem?_eq_getElem (by omega)⟩
                             obtain ⟨c6, h6v⟩ : ∃ x, v[6]? = some x := ⟨_, List.getElem?_eq_getElem (by omega)⟩
                             obtain ⟨c7, h7v⟩ : ∃ x, v[7]? = some x := ⟨_, List.getElem?_eq_getElem (by omega)⟩
                             have hu6 := c6.toNat_lt
                             refine W_index_s (b := c5) Tryd.underlying9 rfl rfl (by decide) h5v rfl ?_
                             refine W_guard_yes rfl ?_
                             refine W_pcall hp rfl (class1_spec c5) rfl ?_
                             clear hp; intro w hp
                             refine W_guard_yes rfl ?_
                             first
                               | (refine W_not_t rfl rfl ?_)
                               | (refine W_not_f rfl rfl ?_)
                               | (refine W_not rfl rfl ?_))
                        first
                          | (refine W_pick_t rfl rfl rfl ?_)
                          | (refine W_pick_f rfl rfl rfl ?_)
                          | (refine W_pick_b rfl rfl rfl rfl ?_)
                        refine W_move rfl rfl ?_
                        first
                          | refine W_guard_lit_t rfl ?_
                          | refine W_guard_lit_f rfl ?_
                          | refine W_guard_lit_u rfl ?_
                          | refine W_guard_split_d rfl rfl rfl (fun hg11 => ?_) (fun hg11 => ?_)
                          | refine W_guard_split_n rfl rfl rfl (fun hg11 => ?_) (fun hg11 => ?_)
                          | refine W_guard_split_nb rfl rfl rfl (fun hg11 => ?_) (fun hg11 => ?_)
                          | refine W_guard_split rfl rfl rfl (fun hg11 => ?_) (fun hg11 => ?_)
                        all_goals try (exfalso; first | omega | (simp only [Bool.false_eq_true, reduceCtorEq] at hg11; done) | (refine absurd hg11 ?_; with_reducible assumption) | (refine absurd ?_ hg11; with_reducible assumption))
                        all_goals (
                         first
                           | (iterate 3 refine W_guard_no rfl rfl rfl ?_)
                           | (iterate 3 refine W_guard_un rfl rfl ?_)
                           | (refine W_guard_yes rfl ?_
                              refine W_move rfl rfl ?_
                              refine W_guard_yes rfl ?_
                              refine W_index_s (b := c6) Tryd.underlying9 rfl rfl (by decide) h6v rfl ?_
                              refine W_guard_yes rfl ?_
                              first
                                | (refine W_neq_t rfl rfl ?_ rfl ?_; (focus (omega)))
                                | (refine W_neq_f rfl rfl ?_ rfl ?_; (focus (omega)))
                                | (refine W_neq rfl rfl rfl ?_))
                         first
                           | (refine W_pick_t rfl rfl rfl ?_)
                           | (refine W_pick_f rfl rfl rfl ?_)
                           | (refine W_pick_b rfl rfl rfl rfl ?_)
                         refine W_move rfl rfl ?_
                         first
                           | refine W_guard_lit_t rfl ?_
                           | refine W_guard_lit_f rfl ?_
                           | refine W_guard_lit_u rfl ?_
                           | refine W_guard_split_d rfl rfl rfl (fun hg12 => ?_) (fun hg12 => ?_)
                           | refine W_guard_split_n rfl rfl rfl (fun hg12 => ?_) (fun hg12 => ?_)
                           | refine W_guard_split_nb rfl rfl rfl (fun hg12 => ?_) (fun hg12 => ?_)
                           | refine W_guard_split rfl rfl rfl (fun hg12 => ?_) (fun hg12 => ?_)
                         all_goals try (exfalso; first | omega | (simp only [Bool.false_eq_true, reduceCtorEq] at hg12; done) | (refine absurd hg12 ?_; with_reducible assumption) | (refine absurd ?_ hg12; with_reducible assumption))
                         all_goals (
                          first
                            | (iterate 4 refine W_guard_no rfl rfl rfl ?_)
                            | (iterate 4 refine W_guard_un rfl rfl ?_)
                            | (refine W_guard_yes rfl ?_
                               refine W_move rfl rfl ?_
                               refine W_guard_yes rfl ?_
                               refine W_index_s (b := c7) Tryd.underlying9 rfl rfl (by decide) h7v rfl ?_
                               refine W_guard_yes rfl ?_
                               refine W_pcall hp rfl (class1_spec c7) rfl ?_
                               clear hp; intro w hp
                               refine W_guard_yes rfl ?_
                               first
                                 | (refine W_not_t rfl rfl ?_)
                                 | (refine W_not_f rfl rfl ?_)
                                 | (refine W_not rfl rfl ?_))
                          first
                            | (refine W_pick_t rfl rfl rfl ?_)
                            | (refine W_pick_f rfl rfl rfl ?_)
                            | (refine W_pick_b rfl rfl rfl rfl ?_)
                          refine W_nil ?_
                          refine N_then_k ?_
                          first
                            | refine K_cond_d rfl (fun hc13 => ?_) (fun hc13 => ?_)
                            | refine K_cond_n rfl (fun hc13 => ?_) (fun hc13 => ?_)
                            | refine K_cond_nb rfl (fun hc13 => ?_) (fun hc13 => ?_)
                            | refine K_cond_t rfl (fun hc13 => ?_) (fun hc13 => ?_)
                          · try (exfalso; first | omega | (simp only [Bool.false_eq_true, reduceCtorEq] at hc13; done) | (refine absurd hc13 ?_; with_reducible assumption) | (refine absurd ?_ hc13; with_reducible assumption))
                            all_goals (
                             refine K_seq ?_
                             refine K_heldp (.first 0 (.first 1 (.first 2 (.first 3 (.first 4 (.only 5 (.first 6 (.first 7 .done)))))))) hm hp (by kernel_rfl) (by kernel_rfl) (.first rfl (.first rfl (.first rfl (.first rfl (.first rfl (.only rfl (.first rfl (.first rfl .done)))))))) ?_
                             clear hp; intro w hp
                             refine Wh_val (by first | exact hp | (refine hp.drop ?_; repeat (first | exact List.Sublist.refl _ | exact List.nil_sublist _ | refine List.Sublist.cons_cons _ ?_ | apply List.sublist_append_of_sublist_right | apply List.Sublist.cons))) (fun w hp => R_build0  ([(.string ⟨#[]⟩), (.string ⟨#[]⟩), (.int .i64 0)]) (by kernel_rfl)) rfl ?_
                             refine Wh_val (by first | exact hp | (refine hp.drop ?_; repeat (first | exact List.Sublist.refl _ | exact List.nil_sublist _ | refine List.Sublist.cons_cons _ ?_ | apply List.sublist_append_of_sublist_right | apply List.Sublist.cons))) (fun w hp => R_move rfl) rfl ?_
                             refine Wh_val (by first | exact hp | (refine hp.drop ?_; repeat (first | exact List.Sublist.refl _ | exact List.nil_sublist _ | refine List.Sublist.cons_cons _ ?_ | apply List.sublist_append_of_sublist_right | apply List.Sublist.cons))) (fun w hp => R_indexAddr_sl Tryd.underlying51 sz3 rfl rfl ?_ ?_) rfl ?_
                             (focus (omega))
                             (focus (first | omega | (simp; done) | (simp; omega)))
                             refine Wh_val (by first | exact hp | (refine hp.drop ?_; repeat (first | exact List.Sublist.refl _ | exact List.nil_sublist _ | refine List.Sublist.cons_cons _ ?_ | apply List.sublist_append_of_sublist_right | apply List.Sublist.cons))) (fun w hp => R_load_s Tryd.underlying3 rfl rfl (by exact (show w.cell? ⟨bb, oo + (1 : Int).toNat * 1, none⟩ = some (.int .i64 ((m.length + 1 + t.length : Nat) : Int)) by exact (OS.rdm (show OS _ _ _ _ _ _ from hos) (w := w) (fun p hq => hp.own p (by simp [hq]))).cell (m := 1) rfl))) rfl ?_
                             first
                               | (refine Wh_val (by first | exact hp | (refine hp.drop ?_; repeat (first | exact List.Sublist.refl _ | exact List.nil_sublist _ | refine List.Sublist.cons_cons _ ?_ | apply List.sublist_append_of_sublist_right | apply List.Sublist.cons))) (fun w hp => R_add rfl rfl (wr_i64 ?_)) rfl ?_; (focus (omega)))
                               | (refine Wh_val (by first | exact hp | (refine hp.drop ?_; repeat (first | exact List.Sublist.refl _ | exact List.nil_sublist _ | refine List.Sublist.cons_cons _ ?_ | apply List.sublist_append_of_sublist_right | apply List.Sublist.cons))) (fun w hp => R_add rfl rfl rfl) rfl ?_)
                             refine Wh_step ?_
                             refine W_storeF (A := Hs) (B := []) (cs := [.string ⟨#[]⟩, .string ⟨#[]⟩, .int .i64 0]) hp rfl sz29 rfl rfl rfl rfl ?_ ?_ ?_ rfl ?_
                             · decide
                             · exact .inl (Nat.zero_le _)
                             · simp [Value.oneCell']
                             clear hp; intro w hp
                             refine W_nil ?_
                             refine Wh_next (by first | exact hp | (refine hp.drop ?_; repeat (first | exact List.Sublist.refl _ | exact List.nil_sublist _ | refine List.Sublist.cons_cons _ ?_ | apply List.sublist_append_of_sublist_right | apply List.Sublist.cons))) ?_
                             refine Wh_val (by first | exact hp | (refine hp.drop ?_; repeat (first | exact List.Sublist.refl _ | exact List.nil_sublist _ | refine List.Sublist.cons_cons _ ?_ | apply List.sublist_append_of_sublist_right | apply List.Sublist.cons))) (fun w hp => R_assign rfl) rfl ?_
                             refine Wh_val (by first | exact hp | (refine hp.drop ?_; repeat (first | exact List.Sublist.refl _ | exact List.nil_sublist _ | refine List.Sublist.cons_cons _ ?_ | apply List.sublist_append_of_sublist_right | apply List.Sublist.cons))) (fun w hp => R_assign rfl) rfl ?_
                             refine Wh_nil ?_
                             refine N_then_k ?_
                             refine K_ret ?_
                             refine N_then_ret ?_
                             refine N_doneL (.inr rfl) rfl (RVs_cons (RV_agg rfl Tryd.underlying29 rfl sz29 hp (by first | exact List.mem_cons_self | exact .tail _ (.head _) | exact .tail _ (.tail _ (.head _)) | exact .tail _ (.tail _ (.tail _ (.head _))) | exact .tail _ (.tail _ (.tail _ (.tail _ (.head _)))) | exact .tail _ (.tail _ (.tail _ (.tail _ (.tail _ (.head _))))) | exact List.mem_append_right _ (.head _) | exact List.mem_append_right _ (.tail _ (.head _)) | exact List.mem_append_right _ (.tail _ (.tail _ (.head _))) | exact .tail _ (List.mem_append_right _ (.head _)) | exact .tail _ (List.mem_append_right _ (.tail _ (.head _))) | assumption | (repeat (first | exact List.mem_cons_self | apply List.mem_append_right | apply List.mem_cons_of_mem))) (by first | rfl | (simp; done))) (RVs_cons (RV_tmp rfl) (RVs_cons (RV_tmp rfl) (RVs_nil)))) rfl ?_
                             refine ⟨_, rfl, ?_, hp.nil⟩
                             try rw [show (((m.length + 1 + t.length : Nat) : Int) + 1) = ((m.length + t.length + 2 : Nat) : Int) by omega]
                             try rw [show List.take (m.length : Int).toNat s = m from cutM hs3 rfl]
                             try rw [show List.take m.length s = m from cutM hs3 rfl]
                             first
                               | (rw [← hL, reqL_no h3]; rfl)
                               | (rw [← hL, reqL1 (by assumption)]; rfl)
                               | (have e : t = [] := by assumption
                                  rw [← hL, reqL2 htk (by rw [e]; rfl)]; rfl)
                               | (rw [← hL, reqL2 htk (by unfold tgtB; rw [all_not hx (decide_eq_false (by omega))]; simp)]; rfl)
                               | (rw [← hL, reqL4 htk htg hver (by unfold supB; rw [decide_eq_false (by assumption), decide_eq_false (by assumption)]; rfl)]; rfl)
                               | (have e : v = [72, 84, 84, 80, 47, 49, 46, 49] := by assumption
                                  rw [← hL, reqL5 htk htg hver (by rw [e]; rfl), e]; rfl)
                               | (have e : v = [72, 84, 84, 80, 47, 49, 46, 48] := by assumption
                                  rw [← hL, reqL5 htk htg hver (by rw [e]; rfl), e]; rfl)
                               | (rw [← hL, reqL3 htk htg (ver_no2 (by omega))]; rfl)
                               | (rw [← hL, reqL3 htk htg (ver_no1 (by assumption))]; rfl)
                               | (rw [← hL, reqL3 htk htg (by rw [ver_of (by assumption) (by omega) h5v h6v h7v]; unfold digitB; rw [decide_eq_false ‹¬ DigitP c5.toNat›]; simp)]; rfl)
                               | (rw [← hL, reqL3 htk htg (by rw [ver_of (by assumption) (by omega) h5v h6v h7v]; unfold digitB; rw [decide_eq_false ‹¬ DigitP c7.toNat›]; simp)]; rfl)
                               | (rw [← hL, reqL3 htk htg (by rw [ver_of (by assumption) (by omega) h5v h6v h7v, decide_eq_false (fun e : c6 = 46 => by have : c6.toNat = 46 := by { rw [e]; rfl }; omega)]; simp)]; rfl))
                          · try (exfalso; first | omega | (simp only [Bool.false_eq_true, reduceCtorEq] at hc13; done) | (refine absurd hc13 ?_; with_reducible assumption) | (refine absurd ?_ hc13; with_reducible assumption))
                            all_goals (
                             refine K_skip ?_
                             refine N_then_k ?_
                             refine K_seq ?_
                             refine K_seq ?_
                             refine K_region ?_
                             have hver : verB v = true := by
                               rw [ver_of (by assumption) (by omega) h5v h6v h7v]
                               unfold digitB
                               rw [decide_eq_true ‹DigitP c5.toNat›, decide_eq_true ‹DigitP c7.toNat›, decide_eq_true (UInt8.toNat_inj.1 (show c6.toNat = (46 : UInt8).toNat by show c6.toNat = 46; omega))]; rfl
                             refine W_move rfl rfl ?_
                             first
                               | (refine W_sneq_f rfl rfl ?_ rfl ?_; (focus (first | rfl | assumption)))
                               | (refine W_sneq_t rfl rfl ?_ rfl ?_; (focus (first | assumption | decide | exact List.cons_ne_nil _ _)))
                               | (refine W_sneq rfl rfl rfl ?_)
                             refine W_move rfl rfl ?_
                             first
                               | refine W_guard_lit_t rfl ?_
                               | refine W_guard_lit_f rfl ?_
                               | refine W_guard_lit_u rfl ?_
                               | refine W_guard_split_d rfl rfl rfl (fun hg14 => ?_) (fun hg14 => ?_)
                               | refine W_guard_split_n rfl rfl rfl (fun hg14 => ?_) (fun hg14 => ?_)
                               | refine W_guard_split_nb rfl rfl rfl (fun hg14 => ?_) (fun hg14 => ?_)
                               | refine W_guard_split rfl rfl rfl (fun hg14 => ?_) (fun hg14 => ?_)
                             all_goals try (exfalso; first | omega | (simp only [Bool.false_eq_true, reduceCtorEq] at hg14; done) | (refine absurd hg14 ?_; with_reducible assumption) | (refine absurd ?_ hg14; with_reducible assumption))
                             all_goals (
                              first
                                | (iterate 2 refine W_guard_no rfl rfl rfl ?_)
                                | (iterate 2 refine W_guard_un rfl rfl ?_)
                                | (refine W_guard_yes rfl ?_
                                   refine W_move rfl rfl ?_
                                   refine W_guard_yes rfl ?_
                                   first
                                     | (refine W_sneq_f rfl rfl ?_ rfl ?_; (focus (first | rfl | assumption)))
                                     | (refine W_sneq_t rfl rfl ?_ rfl ?_; (focus (first | assumption | decide | exact List.cons_ne_nil _ _)))
                                     | (refine W_sneq rfl rfl rfl ?_))
                              first
                                | (refine W_pick_t rfl rfl rfl ?_)
                                | (refine W_pick_f rfl rfl rfl ?_)
                                | (refine W_pick_b rfl rfl rfl rfl ?_)
                              refine W_nil ?_
                              refine N_then_k ?_
                              first
                                | refine K_cond_d rfl (fun hc15 => ?_) (fun hc15 => ?_)
                                | refine K_cond_n rfl (fun hc15 => ?_) (fun hc15 => ?_)
                                | refine K_cond_nb rfl (fun hc15 => ?_) (fun hc15 => ?_)
                                | refine K_cond_t rfl (fun hc15 => ?_) (fun hc15 => ?_)
                              · try (exfalso; first | omega | (simp only [Bool.false_eq_true, reduceCtorEq] at hc15; done) | (refine absurd hc15 ?_; with_reducible assumption) | (refine absurd ?_ hc15; with_reducible assumption))
                                all_goals (
                                 refine K_seq ?_
                                 refine K_heldp (.first 0 (.first 1 (.first 2 (.first 3 (.first 4 (.only 5 (.first 6 (.first 7 .done)))))))) hm hp (by kernel_rfl) (by kernel_rfl) (.first rfl (.first rfl (.first rfl (.first rfl (.first rfl (.only rfl (.first rfl (.first rfl .done)))))))) ?_
                                 clear hp; intro w hp
                                 refine Wh_val (by first | exact hp | (refine hp.drop ?_; repeat (first | exact List.Sublist.refl _ | exact List.nil_sublist _ | refine List.Sublist.cons_cons _ ?_ | apply List.sublist_append_of_sublist_right | apply List.Sublist.cons))) (fun w hp => R_build0  ([(.string ⟨#[]⟩), (.string ⟨#[]⟩), (.int .i64 0)]) (by kernel_rfl)) rfl ?_
                                 refine Wh_val (by first | exact hp | (refine hp.drop ?_; repeat (first | exact List.Sublist.refl _ | exact List.nil_sublist _ | refine List.Sublist.cons_cons _ ?_ | apply List.sublist_append_of_sublist_right | apply List.Sublist.cons))) (fun w hp => R_move rfl) rfl ?_
                                 refine Wh_val (by first | exact hp | (refine hp.drop ?_; repeat (first | exact List.Sublist.refl _ | exact List.nil_sublist _ | refine List.Sublist.cons_cons _ ?_ | apply List.sublist_append_of_sublist_right | apply List.Sublist.cons))) (fun w hp => R_indexAddr_sl Tryd.underlying51 sz3 rfl rfl ?_ ?_) rfl ?_
                                 (focus (omega))
                                 (focus (first | omega | (simp; done) | (simp; omega)))
                                 refine Wh_val (by first | exact hp | (refine hp.drop ?_; repeat (first | exact List.Sublist.refl _ | exact List.nil_sublist _ | refine List.Sublist.cons_cons _ ?_ | apply List.sublist_append_of_sublist_right | apply List.Sublist.cons))) (fun w hp => R_load_s Tryd.underlying3 rfl rfl (by exact (show w.cell? ⟨bb, oo + (1 : Int).toNat * 1, none⟩ = some (.int .i64 ((m.length + 1 + t.length : Nat) : Int)) by exact (OS.rdm (show OS _ _ _ _ _ _ from hos) (w := w) (fun p hq => hp.own p (by simp [hq]))).cell (m := 1) rfl))) rfl ?_
                                 first
                                   | (refine Wh_val (by first | exact hp | (refine hp.drop ?_; repeat (first | exact List.Sublist.refl _ | exact List.nil_sublist _ | refine List.Sublist.cons_cons _ ?_ | apply List.sublist_append_of_sublist_right | apply List.Sublist.cons))) (fun w hp => R_add rfl rfl (wr_i64 ?_)) rfl ?_; (focus (omega)))
                                   | (refine Wh_val (by first | exact hp | (refine hp.drop ?_; repeat (first | exact List.Sublist.refl _ | exact List.nil_sublist _ | refine List.Sublist.cons_cons _ ?_ | apply List.sublist_append_of_sublist_right | apply List.Sublist.cons))) (fun w hp => R_add rfl rfl rfl) rfl ?_)
                                 refine Wh_step ?_
                                 refine W_storeF (A := Hs) (B := []) (cs := [.string ⟨#[]⟩, .string ⟨#[]⟩, .int .i64 0]) hp rfl sz29 rfl rfl rfl rfl ?_ ?_ ?_ rfl ?_
                                 · decide
                                 · exact .inl (Nat.zero_le _)
                                 · simp [Value.oneCell']
                                 clear hp; intro w hp
                                 refine W_nil ?_
                                 refine Wh_next (by first | exact hp | (refine hp.drop ?_; repeat (first | exact List.Sublist.refl _ | exact List.nil_sublist _ | refine List.Sublist.cons_cons _ ?_ | apply List.sublist_append_of_sublist_right | apply List.Sublist.cons))) ?_
                                 refine Wh_val (by first | exact hp | (refine hp.drop ?_; repeat (first | exact List.Sublist.refl _ | exact List.nil_sublist _ | refine List.Sublist.cons_cons _ ?_ | apply List.sublist_append_of_sublist_right | apply List.Sublist.cons))) (fun w hp => R_assign rfl) rfl ?_
                                 refine Wh_val (by first | exact hp | (refine hp.drop ?_; repeat (first | exact List.Sublist.refl _ | exact List.nil_sublist _ | refine List.Sublist.cons_cons _ ?_ | apply List.sublist_append_of_sublist_right | apply List.Sublist.cons))) (fun w hp => R_assign rfl) rfl ?_
                                 refine Wh_nil ?_
                                 refine N_then_k ?_
                                 refine K_ret ?_
                                 refine N_then_ret ?_
                                 refine N_doneL (.inr rfl) rfl (RVs_cons (RV_agg rfl Tryd.underlying29 rfl sz29 hp (by first | exact List.mem_cons_self | exact .tail _ (.head _) | exact .tail _ (.tail _ (.head _)) | exact .tail _ (.tail _ (.tail _ (.head _))) | exact .tail _ (.tail _ (.tail _ (.tail _ (.head _)))) | exact .tail _ (.tail _ (.tail _ (.tail _ (.tail _ (.head _))))) | exact List.mem_append_right _ (.head _) | exact List.mem_append_right _ (.tail _ (.head _)) | exact List.mem_append_right _ (.tail _ (.tail _ (.head _))) | exact .tail _ (List.mem_append_right _ (.head _)) | exact .tail _ (List.mem_append_right _ (.tail _ (.head _))) | assumption | (repeat (first | exact List.mem_cons_self | apply List.mem_append_right | apply List.mem_cons_of_mem))) (by first | rfl | (simp; done))) (RVs_cons (RV_tmp rfl) (RVs_cons (RV_tmp rfl) (RVs_nil)))) rfl ?_
                                 refine ⟨_, rfl, ?_, hp.nil⟩
                                 try rw [show (((m.length + 1 + t.length : Nat) : Int) + 1) = ((m.length + t.length + 2 : Nat) : Int) by omega]
                                 try rw [show List.take (m.length : Int).toNat s = m from cutM hs3 rfl]
                                 try rw [show List.take m.length s = m from cutM hs3 rfl]
                                 first
                                   | (rw [← hL, reqL_no h3]; rfl)
                                   | (rw [← hL, reqL1 (by assumption)]; rfl)
                                   | (have e : t = [] := by assumption
                                      rw [← hL, reqL2 htk (by rw [e]; rfl)]; rfl)
                                   | (rw [← hL, reqL2 htk (by unfold tgtB; rw [all_not hx (decide_eq_false (by omega))]; simp)]; rfl)
                                   | (rw [← hL, reqL4 htk htg hver (by unfold supB; rw [decide_eq_false (by assumption), decide_eq_false (by assumption)]; rfl)]; rfl)
                                   | (have e : v = [72, 84, 84, 80, 47, 49, 46, 49] := by assumption
                                      rw [← hL, reqL5 htk htg hver (by rw [e]; rfl), e]; rfl)
                                   | (have e : v = [72, 84, 84, 80, 47, 49, 46, 48] := by assumption
                                      rw [← hL, reqL5 htk htg hver (by rw [e]; rfl), e]; rfl)
                                   | (rw [← hL, reqL3 htk htg (ver_no2 (by omega))]; rfl)
                                   | (rw [← hL, reqL3 htk htg (ver_no1 (by assumption))]; rfl)
                                   | (rw [← hL, reqL3 htk htg (by rw [ver_of (by assumption) (by omega) h5v h6v h7v]; unfold digitB; rw [decide_eq_false ‹¬ DigitP c5.toNat›]; simp)]; rfl)
                                   | (rw [← hL, reqL3 htk htg (by rw [ver_of (by assumption) (by omega) h5v h6v h7v]; unfold digitB; rw [decide_eq_false ‹¬ DigitP c7.toNat›]; simp)]; rfl)
                                   | (rw [← hL, reqL3 htk htg (by rw [ver_of (by assumption) (by omega) h5v h6v h7v, decide_eq_false (fun e : c6 = 46 => by have : c6.toNat = 46 := by { rw [e]; rfl }; omega)]; simp)]; rfl))
                              · try (exfalso; first | omega | (simp only [Bool.false_eq_true, reduceCtorEq] at hc15; done) | (refine absurd hc15 ?_; with_reducible assumption) | (refine absurd ?_ hc15; with_reducible assumption))
                                all_goals (
                                 refine K_skip ?_
                                 refine N_then_k ?_
                                 refine K_seq ?_
                                 refine K_region ?_
                                 refine W_move rfl rfl ?_
                                 refine W_move rfl rfl ?_
                                 refine W_indexAddr_sl Tryd.underlying51 sz3 rfl rfl ?_ ?_ rfl ?_
                                 (focus (omega))
                                 (focus (first | omega | (simp; done) | (simp; omega)))
                                 refine W_load_s Tryd.underlying3 rfl rfl (by exact (show w.cell? ⟨bb, oo + (0 : Int).toNat * 1, none⟩ = some (.int .i64 (m.length : Nat)) by exact (OS.rdm (show OS _ _ _ _ _ _ from hos) (w := w) (fun p hq => hp.own p (by simp [hq]))).cell (m := 0) rfl)) rfl ?_
                                 refine W_slice_sh Tryd.underlying9 rfl rfl ?_ ?_ rfl ?_
                                 (focus (first | omega | (simp; omega) | (simp only [List.length_drop, List.length_take, List.length_append]; omega)))
                                 (focus (first | omega | (simp; omega) | (simp only [List.length_drop, List.length_take, List.length_append]; omega)))
                                 refine W_move rfl rfl ?_
                                 refine W_build2 rfl rfl  (fun v0 v1 => [v0, v1, (.int .i64 0)]) (by kernel_rfl) rfl ?_
                                 refine W_alloc hp zv29 rfl rfl ?_
                                 clear hp; intro b10 w hp
                                 first
                                   | (refine W_storeF (A := []) hp rfl sz29 rfl rfl rfl rfl ?_ ?_ ?_ rfl ?_; (focus first | exact Nat.le_of_ble_eq_true rfl | omega | (simp; omega)); (focus first | exact .inl (Nat.zero_le _) | omega); (focus first | (intro v hv; simp at hv; subst hv; rfl) | (simp [Value.oneCell']; done) | (simp [Value.oneCell', strV]; done) | (simp [Value.cells, Value.oneCell', strV]; done)))
                                   | (refine W_storeF (A := [_]) hp rfl sz29 rfl rfl rfl rfl ?_ ?_ ?_ rfl ?_; (focus first | exact Nat.le_of_ble_eq_true rfl | omega | (simp; omega)); (focus first | exact .inl (Nat.zero_le _) | omega); (focus first | (intro v hv; simp at hv; subst hv; rfl) | (simp [Value.oneCell']; done) | (simp [Value.oneCell', strV]; done) | (simp [Value.cells, Value.oneCell', strV]; done)))
                                   | (refine W_storeF (A := [_, _]) hp rfl sz29 rfl rfl rfl rfl ?_ ?_ ?_ rfl ?_; (focus first | exact Nat.le_of_ble_eq_true rfl | omega | (simp; omega)); (focus first | exact .inl (Nat.zero_le _) | omega); (focus first | (intro v hv; simp at hv; subst hv; rfl) | (simp [Value.oneCell']; done) | (simp [Value.oneCell', strV]; done) | (simp [Value.cells, Value.oneCell', strV]; done)))
                                   | (refine W_storeF (A := [_, _, _]) hp rfl sz29 rfl rfl rfl rfl ?_ ?_ ?_ rfl ?_; (focus first | exact Nat.le_of_ble_eq_true rfl | omega | (simp; omega)); (focus first | exact .inl (Nat.zero_le _) | omega); (focus first | (intro v hv; simp at hv; subst hv; rfl) | (simp [Value.oneCell']; done) | (simp [Value.oneCell', strV]; done) | (simp [Value.cells, Value.oneCell', strV]; done)))
                                   | (refine W_storeF (A := [_, _, _, _]) hp rfl sz29 rfl rfl rfl rfl ?_ ?_ ?_ rfl ?_; (focus first | exact Nat.le_of_ble_eq_true rfl | omega | (simp; omega)); (focus first | exact .inl (Nat.zero_le _) | omega); (focus first | (intro v hv; simp at hv; subst hv; rfl) | (simp [Value.oneCell']; done) | (simp [Value.oneCell', strV]; done) | (simp [Value.cells, Value.oneCell', strV]; done)))
                                   | (refine W_storeF (A := [_, _, _, _, _]) hp rfl sz29 rfl rfl rfl rfl ?_ ?_ ?_ rfl ?_; (focus first | exact Nat.le_of_ble_eq_true rfl | omega | (simp; omega)); (focus first | exact .inl (Nat.zero_le _) | omega); (focus first | (intro v hv; simp at hv; subst hv; rfl) | (simp [Value.oneCell']; done) | (simp [Value.oneCell', strV]; done) | (simp [Value.cells, Value.oneCell', strV]; done)))
                                   | (refine W_storeM (A := []) hp rfl sz29 rfl rfl rfl rfl ?_ ?_ ?_ rfl ?_; (focus first | exact Nat.le_of_ble_eq_true rfl | omega | (simp; omega)); (focus first | exact .inl (Nat.zero_le _) | omega); (focus first | (intro v hv; simp at hv; subst hv; rfl) | (simp [Value.oneCell']; done) | (simp [Value.oneCell', strV]; done) | (simp [Value.cells, Value.oneCell', strV]; done)))
                                   | (refine W_storeM (A := [_]) hp rfl sz29 rfl rfl rfl rfl ?_ ?_ ?_ rfl ?_; (focus first | exact Nat.le_of_ble_eq_true rfl | omega | (simp; omega)); (focus first | exact .inl (Nat.zero_le _) | omega); (focus first | (intro v hv; simp at hv; subst hv; rfl) | (simp [Value.oneCell']; done) | (simp [Value.oneCell', strV]; done) | (simp [Value.cells, Value.oneCell', strV]; done)))
                                   | (refine W_storeM (A := [_, _]) hp rfl sz29 rfl rfl rfl rfl ?_ ?_ ?_ rfl ?_; (focus first | exact Nat.le_of_ble_eq_true rfl | omega | (simp; omega)); (focus first | exact .inl (Nat.zero_le _) | omega); (focus first | (intro v hv; simp at hv; subst hv; rfl) | (simp [Value.oneCell']; done) | (simp [Value.oneCell', strV]; done) | (simp [Value.cells, Value.oneCell', strV]; done)))
                                   | (refine W_storeP hp sz29 rfl rfl rfl rfl (by repeat (first | exact Pick.here | apply Pick.cons | apply Pick.app)) ?_ ?_ ?_ rfl ?_; (focus first | exact Nat.le_of_ble_eq_true rfl | omega | (simp; omega)); (focus first | exact .inl (Nat.zero_le _) | omega); (focus first | (intro v hv; simp at hv; subst hv; rfl) | (simp [Value.oneCell']; done) | (simp [Value.oneCell', strV]; done) | (simp [Value.cells, Value.oneCell', strV]; done)))
                                 clear hp; intro w hp
                                 simp only [List.nil_append, List.cons_append, List.append_nil, List.take_succ_cons, List.take_zero, List.drop_succ_cons, List.drop_zero, List.take_nil, List.drop_nil, Nat.zero_add, Nat.add_zero, Nat.reduceAdd, Int.reduceToNat, Int.toNat_natCast, Nat.reduceMul, Nat.mul_one, Nat.zero_mul] at hp
                                 refine W_nil ?_
                                 refine N_then_k ?_
                                 refine K_seq ?_
                                 refine K_seq ?_
                                 refine K_region ?_
                                 refine W_move rfl rfl ?_
                                 first
                                   | (refine W_seql_t rfl rfl ?_ rfl ?_; (focus (first | rfl | assumption)))
                                   | (refine W_seql_f rfl rfl ?_ rfl ?_; (focus (first | assumption | decide | exact List.cons_ne_nil _ _)))
                                   | (refine W_seql rfl rfl rfl ?_)
                                 refine W_nil ?_
                                 refine N_then_k ?_
                                 first
                                   | refine K_cond_d rfl (fun hc16 => ?_) (fun hc16 => ?_)
                                   | refine K_cond_n rfl (fun hc16 => ?_) (fun hc16 => ?_)
                                   | refine K_cond_nb rfl (fun hc16 => ?_) (fun hc16 => ?_)
                                   | refine K_cond_t rfl (fun hc16 => ?_) (fun hc16 => ?_)
                                 · try (exfalso; first | omega | (simp only [Bool.false_eq_true, reduceCtorEq] at hc16; done) | (refine absurd hc16 ?_; with_reducible assumption) | (refine absurd ?_ hc16; with_reducible assumption))
                                   all_goals (
                                    refine K_region ?_
                                    refine W_fieldAddr Tryd.underlying29 rfl sz3 rfl rfl ?_
                                    first
                                      | (refine W_storeF (A := []) hp rfl sz3 rfl rfl rfl rfl ?_ ?_ ?_ rfl ?_; (focus first | exact Nat.le_of_ble_eq_true rfl | omega | (simp; omega)); (focus first | exact .inl (Nat.zero_le _) | omega); (focus first | (intro v hv; simp at hv; subst hv; rfl) | (simp [Value.oneCell']; done) | (simp [Value.oneCell', strV]; done) | (simp [Value.cells, Value.oneCell', strV]; done)))
                                      | (refine W_storeF (A := [_]) hp rfl sz3 rfl rfl rfl rfl ?_ ?_ ?_ rfl ?_; (focus first | exact Nat.le_of_ble_eq_true rfl | omega | (simp; omega)); (focus first | exact .inl (Nat.zero_le _) | omega); (focus first | (intro v hv; simp at hv; subst hv; rfl) | (simp [Value.oneCell']; done) | (simp [Value.oneCell', strV]; done) | (simp [Value.cells, Value.oneCell', strV]; done)))
                                      | (refine W_storeF (A := [_, _]) hp rfl sz3 rfl rfl rfl rfl ?_ ?_ ?_ rfl ?_; (focus first | exact Nat.le_of_ble_eq_true rfl | omega | (simp; omega)); (focus first | exact .inl (Nat.zero_le _) | omega); (focus first | (intro v hv; simp at hv; subst hv; rfl) | (simp [Value.oneCell']; done) | (simp [Value.oneCell', strV]; done) | (simp [Value.cells, Value.oneCell', strV]; done)))
                                      | (refine W_storeF (A := [_, _, _]) hp rfl sz3 rfl rfl rfl rfl ?_ ?_ ?_ rfl ?_; (focus first | exact Nat.le_of_ble_eq_true rfl | omega | (simp; omega)); (focus first | exact .inl (Nat.zero_le _) | omega); (focus first | (intro v hv; simp at hv; subst hv; rfl) | (simp [Value.oneCell']; done) | (simp [Value.oneCell', strV]; done) | (simp [Value.cells, Value.oneCell', strV]; done)))
                                      | (refine W_storeF (A := [_, _, _, _]) hp rfl sz3 rfl rfl rfl rfl ?_ ?_ ?_ rfl ?_; (focus first | exact Nat.le_of_ble_eq_true rfl | omega | (simp; omega)); (focus first | exact .inl (Nat.zero_le _) | omega); (focus first | (intro v hv; simp at hv; subst hv; rfl) | (simp [Value.oneCell']; done) | (simp [Value.oneCell', strV]; done) | (simp [Value.cells, Value.oneCell', strV]; done)))
                                      | (refine W_storeF (A := [_, _, _, _, _]) hp rfl sz3 rfl rfl rfl rfl ?_ ?_ ?_ rfl ?_; (focus first | exact Nat.le_of_ble_eq_true rfl | omega | (simp; omega)); (focus first | exact .inl (Nat.zero_le _) | omega); (focus first | (intro v hv; simp at hv; subst hv; rfl) | (simp [Value.oneCell']; done) | (simp [Value.oneCell', strV]; done) | (simp [Value.cells, Value.oneCell', strV]; done)))
                                      | (refine W_storeM (A := []) hp rfl sz3 rfl rfl rfl rfl ?_ ?_ ?_ rfl ?_; (focus first | exact Nat.le_of_ble_eq_true rfl | omega | (simp; omega)); (focus first | exact .inl (Nat.zero_le _) | omega); (focus first | (intro v hv; simp at hv; subst hv; rfl) | (simp [Value.oneCell']; done) | (simp [Value.oneCell', strV]; done) | (simp [Value.cells, Value.oneCell', strV]; done)))
                                      | (refine W_storeM (A := [_]) hp rfl sz3 rfl rfl rfl rfl ?_ ?_ ?_ rfl ?_; (focus first | exact Nat.le_of_ble_eq_true rfl | omega | (simp; omega)); (focus first | exact .inl (Nat.zero_le _) | omega); (focus first | (intro v hv; simp at hv; subst hv; rfl) | (simp [Value.oneCell']; done) | (simp [Value.oneCell', strV]; done) | (simp [Value.cells, Value.oneCell', strV]; done)))
                                      | (refine W_storeM (A := [_, _]) hp rfl sz3 rfl rfl rfl rfl ?_ ?_ ?_ rfl ?_; (focus first | exact Nat.le_of_ble_eq_true rfl | omega | (simp; omega)); (focus first | exact .inl (Nat.zero_le _) | omega); (focus first | (intro v hv; simp at hv; subst hv; rfl) | (simp [Value.oneCell']; done) | (simp [Value.oneCell', strV]; done) | (simp [Value.cells, Value.oneCell', strV]; done)))
                                      | (refine W_storeP hp sz3 rfl rfl rfl rfl (by repeat (first | exact Pick.here | apply Pick.cons | apply Pick.app)) ?_ ?_ ?_ rfl ?_; (focus first | exact Nat.le_of_ble_eq_true rfl | omega | (simp; omega)); (focus first | exact .inl (Nat.zero_le _) | omega); (focus first | (intro v hv; simp at hv; subst hv; rfl) | (simp [Value.oneCell']; done) | (simp [Value.oneCell', strV]; done) | (simp [Value.cells, Value.oneCell', strV]; done)))
                                    clear hp; intro w hp
                                    simp only [List.nil_append, List.cons_append, List.append_nil, List.take_succ_cons, List.take_zero, List.drop_succ_cons, List.drop_zero, List.take_nil, List.drop_nil, Nat.zero_add, Nat.add_zero, Nat.reduceAdd, Int.reduceToNat, Int.toNat_natCast, Nat.reduceMul, Nat.mul_one, Nat.zero_mul] at hp
                                    refine W_nil ?_
                                    refine N_then_k ?_
                                    refine K_seq ?_
                                    refine K_region ?_
                                    refine W_load_own Tryd.underlying29 rfl sz29 rfl hp (by first | exact List.mem_cons_self | exact .tail _ (.head _) | exact .tail _ (.tail _ (.head _)) | exact .tail _ (.tail _ (.tail _ (.head _))) | exact .tail _ (.tail _ (.tail _ (.tail _ (.head _)))) | exact .tail _ (.tail _ (.tail _ (.tail _ (.tail _ (.head _))))) | exact List.mem_append_right _ (.head _) | exact List.mem_append_right _ (.tail _ (.head _)) | exact List.mem_append_right _ (.tail _ (.tail _ (.head _))) | exact .tail _ (List.mem_append_right _ (.head _)) | exact .tail _ (List.mem_append_right _ (.tail _ (.head _))) | assumption | (repeat (first | exact List.mem_cons_self | apply List.mem_append_right | apply List.mem_cons_of_mem))) rfl rfl rfl ?_
                                    first
                                      | (refine W_storeF (A := []) hp rfl sz29 rfl rfl rfl rfl ?_ ?_ ?_ rfl ?_; (focus first | exact Nat.le_of_ble_eq_true rfl | omega | (simp; omega)); (focus first | exact .inl (Nat.zero_le _) | omega); (focus first | (intro v hv; simp at hv; subst hv; rfl) | (simp [Value.oneCell']; done) | (simp [Value.oneCell', strV]; done) | (simp [Value.cells, Value.oneCell', strV]; done)))
                                      | (refine W_storeF (A := [_]) hp rfl sz29 rfl rfl rfl rfl ?_ ?_ ?_ rfl ?_; (focus first | exact Nat.le_of_ble_eq_true rfl | omega | (simp; omega)); (focus first | exact .inl (Nat.zero_le _) | omega); (focus first | (intro v hv; simp at hv; subst hv; rfl) | (simp [Value.oneCell']; done) | (simp [Value.oneCell', strV]; done) | (simp [Value.cells, Value.oneCell', strV]; done)))
                                      | (refine W_storeF (A := [_, _]) hp rfl sz29 rfl rfl rfl rfl ?_ ?_ ?_ rfl ?_; (focus first | exact Nat.le_of_ble_eq_true rfl | omega | (simp; omega)); (focus first | exact .inl (Nat.zero_le _) | omega); (focus first | (intro v hv; simp at hv; subst hv; rfl) | (simp [Value.oneCell']; done) | (simp [Value.oneCell', strV]; done) | (simp [Value.cells, Value.oneCell', strV]; done)))
                                      | (refine W_storeF (A := [_, _, _]) hp rfl sz29 rfl rfl rfl rfl ?_ ?_ ?_ rfl ?_; (focus first | exact Nat.le_of_ble_eq_true rfl | omega | (simp; omega)); (focus first | exact .inl (Nat.zero_le _) | omega); (focus first | (intro v hv; simp at hv; subst hv; rfl) | (simp [Value.oneCell']; done) | (simp [Value.oneCell', strV]; done) | (simp [Value.cells, Value.oneCell', strV]; done)))
                                      | (refine W_storeF (A := [_, _, _, _]) hp rfl sz29 rfl rfl rfl rfl ?_ ?_ ?_ rfl ?_; (focus first | exact Nat.le_of_ble_eq_true rfl | omega | (simp; omega)); (focus first | exact .inl (Nat.zero_le _) | omega); (focus first | (intro v hv; simp at hv; subst hv; rfl) | (simp [Value.oneCell']; done) | (simp [Value.oneCell', strV]; done) | (simp [Value.cells, Value.oneCell', strV]; done)))
                                      | (refine W_storeF (A := [_, _, _, _, _]) hp rfl sz29 rfl rfl rfl rfl ?_ ?_ ?_ rfl ?_; (focus first | exact Nat.le_of_ble_eq_true rfl | omega | (simp; omega)); (focus first | exact .inl (Nat.zero_le _) | omega); (focus first | (intro v hv; simp at hv; subst hv; rfl) | (simp [Value.oneCell']; done) | (simp [Value.oneCell', strV]; done) | (simp [Value.cells, Value.oneCell', strV]; done)))
                                      | (refine W_storeM (A := []) hp rfl sz29 rfl rfl rfl rfl ?_ ?_ ?_ rfl ?_; (focus first | exact Nat.le_of_ble_eq_true rfl | omega | (simp; omega)); (focus first | exact .inl (Nat.zero_le _) | omega); (focus first | (intro v hv; simp at hv; subst hv; rfl) | (simp [Value.oneCell']; done) | (simp [Value.oneCell', strV]; done) | (simp [Value.cells, Value.oneCell', strV]; done)))
                                      | (refine W_storeM (A := [_]) hp rfl sz29 rfl rfl rfl rfl ?_ ?_ ?_ rfl ?_; (focus first | exact Nat.le_of_ble_eq_true rfl | omega | (simp; omega)); (focus first | exact .inl (Nat.zero_le _) | omega); (focus first | (intro v hv; simp at hv; subst hv; rfl) | (simp [Value.oneCell']; done) | (simp [Value.oneCell', strV]; done) | (simp [Value.cells, Value.oneCell', strV]; done)))
                                      | (refine W_storeM (A := [_, _]) hp rfl sz29 rfl rfl rfl rfl ?_ ?_ ?_ rfl ?_; (focus first | exact Nat.le_of_ble_eq_true rfl | omega | (simp; omega)); (focus first | exact .inl (Nat.zero_le _) | omega); (focus first | (intro v hv; simp at hv; subst hv; rfl) | (simp [Value.oneCell']; done) | (simp [Value.oneCell', strV]; done) | (simp [Value.cells, Value.oneCell', strV]; done)))
                                      | (refine W_storeP hp sz29 rfl rfl rfl rfl (by repeat (first | exact Pick.here | apply Pick.cons | apply Pick.app)) ?_ ?_ ?_ rfl ?_; (focus first | exact Nat.le_of_ble_eq_true rfl | omega | (simp; omega)); (focus first | exact .inl (Nat.zero_le _) | omega); (focus first | (intro v hv; simp at hv; subst hv; rfl) | (simp [Value.oneCell']; done) | (simp [Value.oneCell', strV]; done) | (simp [Value.cells, Value.oneCell', strV]; done)))
                                    clear hp; intro w hp
                                    simp only [List.nil_append, List.cons_append, List.append_nil, List.take_succ_cons, List.take_zero, List.drop_succ_cons, List.drop_zero, List.take_nil, List.drop_nil, Nat.zero_add, Nat.add_zero, Nat.reduceAdd, Int.reduceToNat, Int.toNat_natCast, Nat.reduceMul, Nat.mul_one, Nat.zero_mul] at hp
                                    refine W_assign rfl rfl ?_
                                    refine W_assign rfl rfl ?_
                                    refine W_nil ?_
                                    refine N_then_k ?_
                                    refine K_ret ?_
                                    refine N_doneL (.inr rfl) rfl (RVs_cons (RV_agg rfl Tryd.underlying29 rfl sz29 hp (by first | exact List.mem_cons_self | exact .tail _ (.head _) | exact .tail _ (.tail _ (.head _)) | exact .tail _ (.tail _ (.tail _ (.head _))) | exact .tail _ (.tail _ (.tail _ (.tail _ (.head _)))) | exact .tail _ (.tail _ (.tail _ (.tail _ (.tail _ (.head _))))) | exact List.mem_append_right _ (.head _) | exact List.mem_append_right _ (.tail _ (.head _)) | exact List.mem_append_right _ (.tail _ (.tail _ (.head _))) | exact .tail _ (List.mem_append_right _ (.head _)) | exact .tail _ (List.mem_append_right _ (.tail _ (.head _))) | assumption | (repeat (first | exact List.mem_cons_self | apply List.mem_append_right | apply List.mem_cons_of_mem))) (by first | rfl | (simp; done))) (RVs_cons (RV_tmp rfl) (RVs_cons (RV_tmp rfl) (RVs_nil)))) rfl ?_
                                    refine ⟨_, rfl, ?_, hp.nil⟩
                                    try rw [show (((m.length + 1 + t.length : Nat) : Int) + 1) = ((m.length + t.length + 2 : Nat) : Int) by omega]
                                    try rw [show List.take (m.length : Int).toNat s = m from cutM hs3 rfl]
                                    try rw [show List.take m.length s = m from cutM hs3 rfl]
                                    first
                                      | (rw [← hL, reqL_no h3]; rfl)
                                      | (rw [← hL, reqL1 (by assumption)]; rfl)
                                      | (have e : t = [] := by assumption
                                         rw [← hL, reqL2 htk (by rw [e]; rfl)]; rfl)
                                      | (rw [← hL, reqL2 htk (by unfold tgtB; rw [all_not hx (decide_eq_false (by omega))]; simp)]; rfl)
                                      | (rw [← hL, reqL4 htk htg hver (by unfold supB; rw [decide_eq_false (by assumption), decide_eq_false (by assumption)]; rfl)]; rfl)
                                      | (have e : v = [72, 84, 84, 80, 47, 49, 46, 49] := by assumption
                                         rw [← hL, reqL5 htk htg hver (by rw [e]; rfl), e]; rfl)
                                      | (have e : v = [72, 84, 84, 80, 47, 49, 46, 48] := by assumption
                                         rw [← hL, reqL5 htk htg hver (by rw [e]; rfl), e]; rfl)
                                      | (rw [← hL, reqL3 htk htg (ver_no2 (by omega))]; rfl)
                                      | (rw [← hL, reqL3 htk htg (ver_no1 (by assumption))]; rfl)
                                      | (rw [← hL, reqL3 htk htg (by rw [ver_of (by assumption) (by omega) h5v h6v h7v]; unfold digitB; rw [decide_eq_false ‹¬ DigitP c5.toNat›]; simp)]; rfl)
                                      | (rw [← hL, reqL3 htk htg (by rw [ver_of (by assumption) (by omega) h5v h6v h7v]; unfold digitB; rw [decide_eq_false ‹¬ DigitP c7.toNat›]; simp)]; rfl)
                                      | (rw [← hL, reqL3 htk htg (by rw [ver_of (by assumption) (by omega) h5v h6v h7v, decide_eq_false (fun e : c6 = 46 => by have : c6.toNat = 46 := by { rw [e]; rfl }; omega)]; simp)]; rfl))
                                 · try (exfalso; first | omega | (simp only [Bool.false_eq_true, reduceCtorEq] at hc16; done) | (refine absurd hc16 ?_; with_reducible assumption) | (refine absurd ?_ hc16; with_reducible assumption))
                                   all_goals (
                                    refine K_skip ?_
                                    refine N_then_k ?_
                                    refine K_seq ?_
                                    refine K_region ?_
                                    refine W_load_own Tryd.underlying29 rfl sz29 rfl hp (by first | exact List.mem_cons_self | exact .tail _ (.head _) | exact .tail _ (.tail _ (.head _)) | exact .tail _ (.tail _ (.tail _ (.head _))) | exact .tail _ (.tail _ (.tail _ (.tail _ (.head _)))) | exact .tail _ (.tail _ (.tail _ (.tail _ (.tail _ (.head _))))) | exact List.mem_append_right _ (.head _) | exact List.mem_append_right _ (.tail _ (.head _)) | exact List.mem_append_right _ (.tail _ (.tail _ (.head _))) | exact .tail _ (List.mem_append_right _ (.head _)) | exact .tail _ (List.mem_append_right _ (.tail _ (.head _))) | assumption | (repeat (first | exact List.mem_cons_self | apply List.mem_append_right | apply List.mem_cons_of_mem))) rfl rfl rfl ?_
                                    first
                                      | (refine W_storeF (A := []) hp rfl sz29 rfl rfl rfl rfl ?_ ?_ ?_ rfl ?_; (focus first | exact Nat.le_of_ble_eq_true rfl | omega | (simp; omega)); (focus first | exact .inl (Nat.zero_le _) | omega); (focus first | (intro v hv; simp at hv; subst hv; rfl) | (simp [Value.oneCell']; done) | (simp [Value.oneCell', strV]; done) | (simp [Value.cells, Value.oneCell', strV]; done)))
                                      | (refine W_storeF (A := [_]) hp rfl sz29 rfl rfl rfl rfl ?_ ?_ ?_ rfl ?_; (focus first | exact Nat.le_of_ble_eq_true rfl | omega | (simp; omega)); (focus first | exact .inl (Nat.zero_le _) | omega); (focus first | (intro v hv; simp at hv; subst hv; rfl) | (simp [Value.oneCell']; done) | (simp [Value.oneCell', strV]; done) | (simp [Value.cells, Value.oneCell', strV]; done)))
                                      | (refine W_storeF (A := [_, _]) hp rfl sz29 rfl rfl rfl rfl ?_ ?_ ?_ rfl ?_; (focus first | exact Nat.le_of_ble_eq_true rfl | omega | (simp; omega)); (focus first | exact .inl (Nat.zero_le _) | omega); (focus first | (intro v hv; simp at hv; subst hv; rfl) | (simp [Value.oneCell']; done) | (simp [Value.oneCell', strV]; done) | (simp [Value.cells, Value.oneCell', strV]; done)))
                                      | (refine W_storeF (A := [_, _, _]) hp rfl sz29 rfl rfl rfl rfl ?_ ?_ ?_ rfl ?_; (focus first | exact Nat.le_of_ble_eq_true rfl | omega | (simp; omega)); (focus first | exact .inl (Nat.zero_le _) | omega); (focus first | (intro v hv; simp at hv; subst hv; rfl) | (simp [Value.oneCell']; done) | (simp [Value.oneCell', strV]; done) | (simp [Value.cells, Value.oneCell', strV]; done)))
                                      | (refine W_storeF (A := [_, _, _, _]) hp rfl sz29 rfl rfl rfl rfl ?_ ?_ ?_ rfl ?_; (focus first | exact Nat.le_of_ble_eq_true rfl | omega | (simp; omega)); (focus first | exact .inl (Nat.zero_le _) | omega); (focus first | (intro v hv; simp at hv; subst hv; rfl) | (simp [Value.oneCell']; done) | (simp [Value.oneCell', strV]; done) | (simp [Value.cells, Value.oneCell', strV]; done)))
                                      | (refine W_storeF (A := [_, _, _, _, _]) hp rfl sz29 rfl rfl rfl rfl ?_ ?_ ?_ rfl ?_; (focus first | exact Nat.le_of_ble_eq_true rfl | omega | (simp; omega)); (focus first | exact .inl (Nat.zero_le _) | omega); (focus first | (intro v hv; simp at hv; subst hv; rfl) | (simp [Value.oneCell']; done) | (simp [Value.oneCell', strV]; done) | (simp [Value.cells, Value.oneCell', strV]; done)))
                                      | (refine W_storeM (A := []) hp rfl sz29 rfl rfl rfl rfl ?_ ?_ ?_ rfl ?_; (focus first | exact Nat.le_of_ble_eq_true rfl | omega | (simp; omega)); (focus first | exact .inl (Nat.zero_le _) | omega); (focus first | (intro v hv; simp at hv; subst hv; rfl) | (simp [Value.oneCell']; done) | (simp [Value.oneCell', strV]; done) | (simp [Value.cells, Value.oneCell', strV]; done)))
                                      | (refine W_storeM (A := [_]) hp rfl sz29 rfl rfl rfl rfl ?_ ?_ ?_ rfl ?_; (focus first | exact Nat.le_of_ble_eq_true rfl | omega | (simp; omega)); (focus first | exact .inl (Nat.zero_le _) | omega); (focus first | (intro v hv; simp at hv; subst hv; rfl) | (simp [Value.oneCell']; done) | (simp [Value.oneCell', strV]; done) | (simp [Value.cells, Value.oneCell', strV]; done)))
                                      | (refine W_storeM (A := [_, _]) hp rfl sz29 rfl rfl rfl rfl ?_ ?_ ?_ rfl ?_; (focus first | exact Nat.le_of_ble_eq_true rfl | omega | (simp; omega)); (focus first | exact .inl (Nat.zero_le _) | omega); (focus first | (intro v hv; simp at hv; subst hv; rfl) | (simp [Value.oneCell']; done) | (simp [Value.oneCell', strV]; done) | (simp [Value.cells, Value.oneCell', strV]; done)))
                                      | (refine W_storeP hp sz29 rfl rfl rfl rfl (by repeat (first | exact Pick.here | apply Pick.cons | apply Pick.app)) ?_ ?_ ?_ rfl ?_; (focus first | exact Nat.le_of_ble_eq_true rfl | omega | (simp; omega)); (focus first | exact .inl (Nat.zero_le _) | omega); (focus first | (intro v hv; simp at hv; subst hv; rfl) | (simp [Value.oneCell']; done) | (simp [Value.oneCell', strV]; done) | (simp [Value.cells, Value.oneCell', strV]; done)))
                                    clear hp; intro w hp
                                    simp only [List.nil_append, List.cons_append, List.append_nil, List.take_succ_cons, List.take_zero, List.drop_succ_cons, List.drop_zero, List.take_nil, List.drop_nil, Nat.zero_add, Nat.add_zero, Nat.reduceAdd, Int.reduceToNat, Int.toNat_natCast, Nat.reduceMul, Nat.mul_one, Nat.zero_mul] at hp
                                    refine W_assign rfl rfl ?_
                                    refine W_assign rfl rfl ?_
                                    refine W_nil ?_
                                    refine N_then_k ?_
                                    refine K_ret ?_
                                    refine N_doneL (.inr rfl) rfl (RVs_cons (RV_agg rfl Tryd.underlying29 rfl sz29 hp (by first | exact List.mem_cons_self | exact .tail _ (.head _) | exact .tail _ (.tail _ (.head _)) | exact .tail _ (.tail _ (.tail _ (.head _))) | exact .tail _ (.tail _ (.tail _ (.tail _ (.head _)))) | exact .tail _ (.tail _ (.tail _ (.tail _ (.tail _ (.head _))))) | exact List.mem_append_right _ (.head _) | exact List.mem_append_right _ (.tail _ (.head _)) | exact List.mem_append_right _ (.tail _ (.tail _ (.head _))) | exact .tail _ (List.mem_append_right _ (.head _)) | exact .tail _ (List.mem_append_right _ (.tail _ (.head _))) | assumption | (repeat (first | exact List.mem_cons_self | apply List.mem_append_right | apply List.mem_cons_of_mem))) (by first | rfl | (simp; done))) (RVs_cons (RV_tmp rfl) (RVs_cons (RV_tmp rfl) (RVs_nil)))) rfl ?_
                                    refine ⟨_, rfl, ?_, hp.nil⟩
                                    try rw [show (((m.length + 1 + t.length : Nat) : Int) + 1) = ((m.length + t.length + 2 : Nat) : Int) by omega]
                                    try rw [show List.take (m.length : Int).toNat s = m from cutM hs3 rfl]
                                    try rw [show List.take m.length s = m from cutM hs3 rfl]
                                    first
                                      | (rw [← hL, reqL_no h3]; rfl)
                                      | (rw [← hL, reqL1 (by assumption)]; rfl)
                                      | (have e : t = [] := by assumption
                                         rw [← hL, reqL2 htk (by rw [e]; rfl)]; rfl)
                                      | (rw [← hL, reqL2 htk (by unfold tgtB; rw [all_not hx (decide_eq_false (by omega))]; simp)]; rfl)
                                      | (rw [← hL, reqL4 htk htg hver (by unfold supB; rw [decide_eq_false (by assumption), decide_eq_false (by assumption)]; rfl)]; rfl)
                                      | (have e : v = [72, 84, 84, 80, 47, 49, 46, 49] := by assumption
                                         rw [← hL, reqL5 htk htg hver (by rw [e]; rfl), e]; rfl)
                                      | (have e : v = [72, 84, 84, 80, 47, 49, 46, 48] := by assumption
                                         rw [← hL, reqL5 htk htg hver (by rw [e]; rfl), e]; rfl)
                                      | (rw [← hL, reqL3 htk htg (ver_no2 (by omega))]; rfl)
                                      | (rw [← hL, reqL3 htk htg (ver_no1 (by assumption))]; rfl)
                                      | (rw [← hL, reqL3 htk htg (by rw [ver_of (by assumption) (by omega) h5v h6v h7v]; unfold digitB; rw [decide_eq_false ‹¬ DigitP c5.toNat›]; simp)]; rfl)
                                      | (rw [← hL, reqL3 htk htg (by rw [ver_of (by assumption) (by omega) h5v h6v h7v]; unfold digitB; rw [decide_eq_false ‹¬ DigitP c7.toNat›]; simp)]; rfl)
                                      | (rw [← hL, reqL3 htk htg (by rw [ver_of (by assumption) (by omega) h5v h6v h7v, decide_eq_false (fun e : c6 = 46 => by have : c6.toNat = 46 := by { rw [e]; rfl }; omega)]; simp)]; rfl)))))))))))))))))

end Go.Proofs.YtcanebnegfnhdaaDoor
