/-
  Package percent and its reference, walked.
-/
import Derived.Test.YtbccjajnjndlbaaDoorPctB
namespace Go.Proofs.YtbccjajnjndlbaaDoor
open Go.Sx Go.RowKit
set_option linter.unusedVariables false
set_option linter.unusedSimpArgs false
set_option maxRecDepth 100000

theorem rdec_ok {s a : List UInt8} (h : decT s = (a, -1)) : Value.tuple #[.string ⟨(decT s).1.toArray⟩, .int .i64 (decT s).2] = .tuple #[.string ⟨a.toArray⟩, .int .i64 (-1)] := by rw [h]
theorem rdec_bad {s : List UInt8} {n : Nat} (h : decT s = ([], (n : Int))) : Value.tuple #[.string ⟨(decT s).1.toArray⟩, .int .i64 (decT s).2] = .tuple #[.string ⟨([] : List UInt8).toArray⟩, .int .i64 n] := by rw [h]

set_option maxHeartbeats 400000 in
theorem rdecode_spec (s : List UInt8) (hl : s.length ≤ 1000000) : PureF Tryd.prog 9 [.string ⟨s.toArray⟩] (.tuple #[.string ⟨(decT s).1.toArray⟩, .int .i64 (decT s).2]) := by
  refine PureF.intro go9 Tryd.func9 rfl rfl fun w0 hp => ?_
  refine K_seq ?_
  refine K_region ?_
  refine W_assign rfl rfl ?_
  refine W_assign rfl rfl ?_
  refine W_nil ?_
  refine N_then_k ?_
  refine K_seq ?_
  refine K_region ?_
  refine W_assign rfl rfl ?_
  refine W_nil ?_
  refine N_then_k ?_
  refine K_seq ?_
  refine K_seq ?_
  refine K_region ?_
  refine W_assign rfl rfl ?_
  refine W_nil ?_
  refine N_then_k ?_
  refine K_block ?_
  refine K_loop (σ := Nat × List UInt8 × Value × Heap) [2, 3, 4, 5, 6, 7, 8, 9, 10, 11, 12, 13, 14, 15, 16, 17, 18, 19, 20, 21, 22, 23, 24, 25, 26, 27, 28, 29, 30, 31, 32, 33, 34, 35, 36, 37, 38, 39, 40, 41, 42, 43, 44, 45, 46, 47, 48, 49, 50, 51, 52, 53, 54, 55, 56, 57, 58, 59, 60, 61]
      (fun q => [(5, .int .i64 q.1), (4, q.2.2.1)])
      (fun q w => OSb 5 q.2.2.1 q.2.1 q.2.2.2 ∧ Hp w0 [] q.2.2.2 w ∧ q.1 ≤ s.length ∧ q.2.1.length ≤ q.1 ∧ decT s = joinT q.2.1 q.1 (decT (s.drop q.1)))
      (fun q => s.length - q.1) ((0, [], .slice none 0 0, [])) ?_ ?_ ?_
  · repeat' (first | exact sub_lst_nil (sub_nil _) | refine sub_lst rfl ?_ | (refine sub_lst_eq rfl ?_ ?_; · first | rfl | (simp; done) | (congr 1; omega)))
  · exact ⟨OSb.nil, hp, Nat.zero_le _, Nat.le_refl _, joinT_zero s⟩
  · intro ⟨i, a, v, Hs⟩ w hJ
    clear hp
    obtain ⟨hos, hp, hle, ha, hinv⟩ := hJ
    simp only at hos hp hle ha hinv
    obtain ⟨Av, cv, rfl⟩ := hos.form
    rcases Nat.lt_or_ge i s.length with hlt | hge
    all_goals (
     refine K_seq ?_
     refine K_seq ?_
     refine K_region ?_
     refine W_move rfl rfl ?_
     refine W_move rfl rfl ?_
     refine W_len_s Tryd.underlying9 rfl rfl ?_
     first
       | (refine W_lss_t rfl rfl ?_ rfl ?_; (focus (omega)))
       | (refine W_lss_f rfl rfl ?_ rfl ?_; (focus (omega)))
       | (refine W_lss rfl rfl rfl ?_)
     refine W_nil ?_
     refine N_then_k ?_
     first
       | refine K_cond_d rfl (fun hc1 => ?_) (fun hc1 => ?_)
       | refine K_cond_n rfl (fun hc1 => ?_) (fun hc1 => ?_)
       | refine K_cond_nb rfl (fun hc1 => ?_) (fun hc1 => ?_)
       | refine K_cond_t rfl (fun hc1 => ?_) (fun hc1 => ?_)
     · try (exfalso; first | omega | (simp only [Bool.false_eq_true, reduceCtorEq] at hc1; done) | (refine absurd hc1 ?_; with_reducible assumption) | (refine absurd ?_ hc1; with_reducible assumption))
       all_goals (
        refine K_skip ?_
        refine N_then_k ?_
        refine K_seq ?_
        refine K_block ?_
        refine K_seq ?_
        refine K_seq ?_
        refine K_region ?_
        obtain ⟨c, hc⟩ : ∃ c, s[i]? = some c := ⟨_, List.getElem?_eq_getElem hlt⟩
        rcases dec_at hc hinv with ⟨h37, hn⟩ | ⟨x, y, h37, hx, hy, hx0, hy0, h3, ht, hn⟩ | ⟨bb, h37, h2, ht, hn⟩ | ⟨x, y, bb, h37, hx, hy, hx0, h3, ht, hn⟩ | ⟨x, y, bb, h37, hx, hy, hx0, hy0, h3, ht, hn⟩
        all_goals (
         refine W_move rfl rfl ?_
         refine W_move rfl rfl ?_
         refine W_index_s Tryd.underlying9 rfl rfl ?_ (by first | with_reducible assumption | assumption | exact rfl | exact idx_getD (by first | omega | (simp; omega))) rfl ?_
         (focus (omega))
         first
           | (refine W_neq_t rfl rfl ?_ rfl ?_; (focus (omega)))
           | (refine W_neq_f rfl rfl ?_ rfl ?_; (focus (omega)))
           | (refine W_neq rfl rfl rfl ?_)
         refine W_nil ?_
         refine N_then_k ?_
         first
           | refine K_cond_d rfl (fun hc2 => ?_) (fun hc2 => ?_)
           | refine K_cond_n rfl (fun hc2 => ?_) (fun hc2 => ?_)
           | refine K_cond_nb rfl (fun hc2 => ?_) (fun hc2 => ?_)
           | refine K_cond_t rfl (fun hc2 => ?_) (fun hc2 => ?_)
         · try (exfalso; first | omega | (simp only [Bool.false_eq_true, reduceCtorEq] at hc2; done) | (refine absurd hc2 ?_; with_reducible assumption) | (refine absurd ?_ hc2; with_reducible assumption))
           all_goals (
            refine K_seq ?_
            refine K_region ?_
            refine W_move rfl rfl ?_
            refine W_move rfl rfl ?_
            refine W_move rfl rfl ?_
            refine W_index_s Tryd.underlying9 rfl rfl ?_ (by first | with_reducible assumption | assumption | exact rfl | exact idx_getD (by first | omega | (simp; omega))) rfl ?_
            (focus (omega))
            refine W_bslice1 hp Tryd.underlying37 sz5 zv5 rfl  rfl  (fun v0 => [v0]) rfl rfl rfl ?_
            clear hp; intro b20 w hp
            try simp only [List.append_nil] at hp
            rw [← List.append_nil Hs] at hp
            refine W_append_sl (A := [_]) (B := []) _ rfl hp rfl Tryd.underlying37 sz5 pb5 zv5 rfl rfl rfl rfl hos (Rd.own hp (by first | exact List.mem_cons_self | exact .tail _ (.head _) | exact .tail _ (.tail _ (.head _)) | exact .tail _ (.tail _ (.tail _ (.head _))) | exact .tail _ (.tail _ (.tail _ (.tail _ (.head _)))) | exact .tail _ (.tail _ (.tail _ (.tail _ (.tail _ (.head _)))))) (List.prefix_refl _)) ?_ ?_ ?_ ?_ rfl ?_
            · rfl
            · simp [Value.oneCell']
            · (simp only [maxLen]; omega)
            · omega
            clear hp; intro va21 Hs w hos hp
            replace hos := OSb.snoc (c := c) hos
            obtain ⟨Aa21, ca21, rfl⟩ := hos.form
            refine W_assign rfl rfl ?_
            refine W_nil ?_
            refine N_then_k ?_
            refine K_exit ?_
            refine N_then_exit ?_
            refine N_block_exit ?_
            refine N_then_k ?_
            refine K_region ?_
            refine W_move rfl rfl ?_
            first
              | (refine W_add rfl rfl (wr_i64 ?_) rfl ?_; (focus (omega)))
              | (refine W_add rfl rfl rfl rfl ?_)
            refine W_assign rfl rfl ?_
            refine W_nil ?_
            first
              | (refine N_again (i + 1, a ++ [c], _, Hs) (sub_end ?_ ?_) ⟨hos, by simpa using hp.drop (List.sublist_cons_self _ _), hlt, by simp; omega, hn⟩ ?_
                 · repeat' (first | exact sub_lst_nil (sub_nil _) | refine sub_lst rfl ?_ | (refine sub_lst_eq rfl ?_ ?_; · first | rfl | (simp; done) | (congr 1; omega)))
                 · repeat' (first | exact sub_refl _ | exact sub_strip _ _ | refine sub_s_cons rfl ?_ | refine sub_s_lst rfl ?_ | refine sub_s_strip rfl ?_)
                 · show _ < _; simp only; omega)
              | (refine N_again (i + 3, a ++ [ofHex x y], _, Hs) (sub_end ?_ ?_) ⟨hos, by simpa using hp.drop (List.sublist_cons_self _ _), h3, by simp; omega, hn⟩ ?_
                 · repeat' (first | exact sub_lst_nil (sub_nil _) | refine sub_lst rfl ?_ | (refine sub_lst_eq rfl ?_ ?_; · first | rfl | (refine congrArg (Value.int .i64) ?_; dsimp only; omega)))
                 · repeat' (first | exact sub_refl _ | exact sub_strip _ _ | refine sub_s_cons rfl ?_ | refine sub_s_lst rfl ?_ | refine sub_s_strip rfl ?_)
                 · show _ < _; simp only; omega))
         · try (exfalso; first | omega | (simp only [Bool.false_eq_true, reduceCtorEq] at hc2; done) | (refine absurd hc2 ?_; with_reducible assumption) | (refine absurd ?_ hc2; with_reducible assumption))
           all_goals (
            refine K_skip ?_
            refine N_then_k ?_
            refine K_seq ?_
            refine K_seq ?_
            refine K_region ?_
            refine W_move rfl rfl ?_
            first
              | (refine W_add rfl rfl (wr_i64 ?_) rfl ?_; (focus (omega)))
              | (refine W_add rfl rfl rfl rfl ?_)
            refine W_move rfl rfl ?_
            refine W_len_s Tryd.underlying9 rfl rfl ?_
            first
              | (refine W_geq_t rfl rfl ?_ rfl ?_; (focus (omega)))
              | (refine W_geq_f rfl rfl ?_ rfl ?_; (focus (omega)))
              | (refine W_geq rfl rfl rfl ?_)
            refine W_move rfl rfl ?_
            first
              | refine W_guard_lit_t rfl ?_
              | refine W_guard_lit_f rfl ?_
              | refine W_guard_lit_u rfl ?_
              | refine W_guard_split_d rfl rfl rfl (fun hg3 => ?_) (fun hg3 => ?_)
              | refine W_guard_split_n rfl rfl rfl (fun hg3 => ?_) (fun hg3 => ?_)
              | refine W_guard_split_nb rfl rfl rfl (fun hg3 => ?_) (fun hg3 => ?_)
              | refine W_guard_split rfl rfl rfl (fun hg3 => ?_) (fun hg3 => ?_)
            all_goals try (exfalso; first | omega | (simp only [Bool.false_eq_true, reduceCtorEq] at hg3; done) | (refine absurd hg3 ?_; with_reducible assumption) | (refine absurd ?_ hg3; with_reducible assumption))
            all_goals (
             first
               | (iterate 6 refine W_guard_no rfl rfl rfl ?_)
               | (iterate 6 refine W_guard_un rfl rfl ?_)
               | (refine W_guard_yes rfl ?_
                  refine W_move rfl rfl ?_
                  refine W_guard_yes rfl ?_
                  refine W_move rfl rfl ?_
                  refine W_guard_yes rfl ?_
                  first
                    | (refine W_add rfl rfl (wr_i64 ?_) rfl ?_; (focus (omega)))
                    | (refine W_add rfl rfl rfl rfl ?_)
                  refine W_guard_yes rfl ?_
                  refine W_index_s Tryd.underlying9 rfl rfl ?_ (by first | with_reducible assumption | assumption | exact rfl | exact idx_getD (by first | omega | (simp; omega))) rfl ?_
                  (focus (omega))
                  refine W_guard_yes rfl ?_
                  refine W_pcall hp rfl (rhex_spec x) rfl ?_
                  clear hp; intro w hp
                  refine W_guard_yes rfl ?_
                  first
                    | (refine W_lss_t rfl rfl ?_ rfl ?_; (focus (omega)))
                    | (refine W_lss_f rfl rfl ?_ rfl ?_; (focus (omega)))
                    | (refine W_lss rfl rfl rfl ?_))
             first
               | (refine W_pick_t rfl rfl rfl ?_)
               | (refine W_pick_f rfl rfl rfl ?_)
               | (refine W_pick_b rfl rfl rfl rfl ?_)
             refine W_move rfl rfl ?_
             first
               | refine W_guard_lit_t rfl ?_
               | refine W_guard_lit_f rfl ?_
               | refine W_guard_lit_u rfl ?_
               | refine W_guard_split_d rfl rfl rfl (fun hg4 => ?_) (fun hg4 => ?_)
               | refine W_guard_split_n rfl rfl rfl (fun hg4 => ?_) (fun hg4 => ?_)
               | refine W_guard_split_nb rfl rfl rfl (fun hg4 => ?_) (fun hg4 => ?_)
               | refine W_guard_split rfl rfl rfl (fun hg4 => ?_) (fun hg4 => ?_)
             all_goals try (exfalso; first | omega | (simp only [Bool.false_eq_true, reduceCtorEq] at hg4; done) | (refine absurd hg4 ?_; with_reducible assumption) | (refine absurd ?_ hg4; with_reducible assumption))
             all_goals (
              first
                | (iterate 6 refine W_guard_no rfl rfl rfl ?_)
                | (iterate 6 refine W_guard_un rfl rfl ?_)
                | (refine W_guard_yes rfl ?_
                   refine W_move rfl rfl ?_
                   refine W_guard_yes rfl ?_
                   refine W_move rfl rfl ?_
                   refine W_guard_yes rfl ?_
                   first
                     | (refine W_add rfl rfl (wr_i64 ?_) rfl ?_; (focus (omega)))
                     | (refine W_add rfl rfl rfl rfl ?_)
                   refine W_guard_yes rfl ?_
                   refine W_index_s Tryd.underlying9 rfl rfl ?_ (by first | with_reducible assumption | assumption | exact rfl | exact idx_getD (by first | omega | (simp; omega))) rfl ?_
                   (focus (omega))
                   refine W_guard_yes rfl ?_
                   refine W_pcall hp rfl (rhex_spec y) rfl ?_
                   clear hp; intro w hp
                   refine W_guard_yes rfl ?_
                   first
                     | (refine W_lss_t rfl rfl ?_ rfl ?_; (focus (omega)))
                     | (refine W_lss_f rfl rfl ?_ rfl ?_; (focus (omega)))
                     | (refine W_lss rfl rfl rfl ?_))
              first
                | (refine W_pick_t rfl rfl rfl ?_)
                | (refine W_pick_f rfl rfl rfl ?_)
                | (refine W_pick_b rfl rfl rfl rfl ?_)
              refine W_nil ?_
              refine N_then_k ?_
              first
                | refine K_cond_d rfl (fun hc5 => ?_) (fun hc5 => ?_)
                | refine K_cond_n rfl (fun hc5 => ?_) (fun hc5 => ?_)
                | refine K_cond_nb rfl (fun hc5 => ?_) (fun hc5 => ?_)
                | refine K_cond_t rfl (fun hc5 => ?_) (fun hc5 => ?_)
              · try (exfalso; first | omega | (simp only [Bool.false_eq_true, reduceCtorEq] at hc5; done) | (refine absurd hc5 ?_; with_reducible assumption) | (refine absurd ?_ hc5; with_reducible assumption))
                all_goals (
                 refine K_seq ?_
                 refine K_region ?_
                 refine W_move rfl rfl ?_
                 refine W_assign rfl rfl ?_
                 refine W_assign rfl rfl ?_
                 refine W_nil ?_
                 refine N_then_k ?_
                 refine K_ret ?_
                 refine N_then_ret ?_
                 refine N_block_ret ?_
                 refine N_then_ret ?_
                 refine N_then_ret ?_
                 refine N_block_ret ?_
                 refine N_then_ret ?_
                 refine N_done2 (.inr rfl) rfl rfl rfl ?_
                 first
                   | (refine ⟨_, rfl, ?_, hp.nil⟩; rw [hn]; done)
                   | (refine ⟨_, rfl, ?_, hp.nil⟩; rw [ha]))
              · try (exfalso; first | omega | (simp only [Bool.false_eq_true, reduceCtorEq] at hc5; done) | (refine absurd hc5 ?_; with_reducible assumption) | (refine absurd ?_ hc5; with_reducible assumption))
                all_goals (
                 refine K_skip ?_
                 refine N_then_k ?_
                 refine K_seq ?_
                 have hbv := ofHex_val hx0 hy0
                 have hrx := hexI_range x.toNat
                 have hry := hexI_range y.toNat
                 have hbl := (ofHex x y).toNat_lt
                 refine K_draw (C := Hp _ _ _) [0] [1, 2, 3, 4, 5, 6, 7, 8, 9, 10, 11, 12, 13] 14 [_] [_, _, _, _, _, _, _, _, _, _, _, _, _] [_, _, _] hm hp hp.drew (by kernel_rfl) rfl rfl rfl ?_
                 clear hp
                 refine Wy_val (fun w => R_move rfl) rfl ?_
                 refine Wy_end ?_
                 refine Wq_val (fun w hp => R_move rfl) rfl ?_
                 refine Wq_val (fun w hp => R_move rfl) rfl ?_
                 first
                   | (refine Wq_val (fun w hp => R_add rfl rfl (wr_i64 ?_)) rfl ?_; (focus (omega)))
                   | (refine Wq_val (fun w hp => R_add rfl rfl rfl) rfl ?_)
                 refine Wq_val (fun w hp => R_index_s Tryd.underlying9 rfl rfl ?_ (by first | with_reducible assumption | assumption | exact rfl | exact idx_getD (by first | omega | (simp; omega)))) rfl ?_
                 (focus (omega))
                 refine Wq_pcall rfl (rhex_spec x) rfl ?_
                 first
                   | (refine Wq_val (fun w hp => R_mul rfl rfl (wr_i64 ?_)) rfl ?_; (focus (omega)))
                   | (refine Wq_val (fun w hp => R_mul rfl rfl rfl) rfl ?_)
                 refine Wq_val (fun w hp => R_move rfl) rfl ?_
                 refine Wq_val (fun w hp => R_move rfl) rfl ?_
                 first
                   | (refine Wq_val (fun w hp => R_add rfl rfl (wr_i64 ?_)) rfl ?_; (focus (omega)))
                   | (refine Wq_val (fun w hp => R_add rfl rfl rfl) rfl ?_)
                 refine Wq_val (fun w hp => R_index_s Tryd.underlying9 rfl rfl ?_ (by first | with_reducible assumption | assumption | exact rfl | exact idx_getD (by first | omega | (simp; omega)))) rfl ?_
                 (focus (omega))
                 refine Wq_pcall rfl (rhex_spec y) rfl ?_
                 first
                   | (refine Wq_val (fun w hp => R_add rfl rfl (wr_i64 ?_)) rfl ?_; (focus (omega)))
                   | (refine Wq_val (fun w hp => R_add rfl rfl rfl) rfl ?_)
                 first
                   | (refine Wq_val (fun w hp => R_conv_i Tryd.underlying3 Tryd.underlying5 rfl (wr_u8 ?_)) rfl ?_; (focus (first | omega | (have := u8_lt ‹_›; omega))))
                   | (refine Wq_val (fun w hp => R_conv_i Tryd.underlying3 Tryd.underlying5 rfl rfl) rfl ?_)
                 refine Wq_tail ?_
                 intro w hp
                 skip
                 refine W_bslice1 (f := fun v => [v]) hp Tryd.underlying37 sz5 zv5 (v0 := .int .u8 ((ofHex x y).toNat : Int)) (congrArg some (congrArg (Value.int .u8) (by omega))) rfl rfl rfl rfl ?_
                 clear hp; intro b58 w hp
                 try simp only [List.append_nil] at hp
                 rw [← List.append_nil Hs] at hp
                 refine W_append_sl (A := [_]) (B := []) _ rfl hp rfl Tryd.underlying37 sz5 pb5 zv5 rfl rfl rfl rfl hos (Rd.own hp (by first | exact List.mem_cons_self | exact .tail _ (.head _) | exact .tail _ (.tail _ (.head _)) | exact .tail _ (.tail _ (.tail _ (.head _))) | exact .tail _ (.tail _ (.tail _ (.tail _ (.head _)))) | exact .tail _ (.tail _ (.tail _ (.tail _ (.tail _ (.head _)))))) (List.prefix_refl _)) ?_ ?_ ?_ ?_ rfl ?_
                 · rfl
                 · simp [Value.oneCell']
                 · (simp only [maxLen]; omega)
                 · omega
                 clear hp; intro va59 Hs w hos hp
                 replace hos := OSb.snoc (c := (ofHex x y)) hos
                 obtain ⟨Aa59, ca59, rfl⟩ := hos.form
                 refine W_assign rfl rfl ?_
                 refine W_nil ?_
                 refine N_nodie ?_
                 refine N_then_k ?_
                 refine K_region ?_
                 refine W_move rfl rfl ?_
                 first
                   | (refine W_add rfl rfl (wr_i64 ?_) rfl ?_; (focus (omega)))
                   | (refine W_add rfl rfl rfl rfl ?_)
                 refine W_assign rfl rfl ?_
                 refine W_nil ?_
                 refine N_block_normal ?_
                 refine N_then_k ?_
                 refine K_region ?_
                 refine W_move rfl rfl ?_
                 first
                   | (refine W_add rfl rfl (wr_i64 ?_) rfl ?_; (focus (omega)))
                   | (refine W_add rfl rfl rfl rfl ?_)
                 refine W_assign rfl rfl ?_
                 refine W_nil ?_
                 first
                   | (refine N_again (i + 1, a ++ [c], _, Hs) (sub_end ?_ ?_) ⟨hos, by simpa using hp.drop (List.sublist_cons_self _ _), hlt, by simp; omega, hn⟩ ?_
                      · repeat' (first | exact sub_lst_nil (sub_nil _) | refine sub_lst rfl ?_ | (refine sub_lst_eq rfl ?_ ?_; · first | rfl | (simp; done) | (congr 1; omega)))
                      · repeat' (first | exact sub_refl _ | exact sub_strip _ _ | refine sub_s_cons rfl ?_ | refine sub_s_lst rfl ?_ | refine sub_s_strip rfl ?_)
                      · show _ < _; simp only; omega)
                   | (refine N_again (i + 3, a ++ [ofHex x y], _, Hs) (sub_end ?_ ?_) ⟨hos, by simpa using hp.drop (List.sublist_cons_self _ _), h3, by simp; omega, hn⟩ ?_
                      · repeat' (first | exact sub_lst_nil (sub_nil _) | refine sub_lst rfl ?_ | (refine sub_lst_eq rfl ?_ ?_; · first | rfl | (refine congrArg (Value.int .i64) ?_; dsimp only; omega)))
                      · repeat' (first | exact sub_refl _ | exact sub_strip _ _ | refine sub_s_cons rfl ?_ | refine sub_s_lst rfl ?_ | refine sub_s_strip rfl ?_)
                      · show _ < _; simp only; omega)))))))
     · try (exfalso; first | omega | (simp only [Bool.false_eq_true, reduceCtorEq] at hc1; done) | (refine absurd hc1 ?_; with_reducible assumption) | (refine absurd ?_ hc1; with_reducible assumption))
       all_goals (
        refine K_exit ?_
        refine N_then_exit ?_
        refine N_then_exit ?_
        refine N_block_exit ?_
        refine N_then_k ?_
        refine K_seq ?_
        refine K_region ?_
        refine W_move rfl rfl ?_
        obtain ha := dec_end hinv (by omega)
        refine W_conv_bs (a := a) Tryd.underlying37 Tryd.underlying5 Tryd.underlying9 rfl (hos.rd (A := []) (B := []) (by simpa using hp)) rfl rfl ?_
        refine W_assign rfl rfl ?_
        refine W_assign rfl rfl ?_
        refine W_nil ?_
        refine N_then_k ?_
        refine K_ret ?_
        refine N_done2 (.inr rfl) rfl rfl rfl ?_
        first
          | (refine ⟨_, rfl, ?_, hp.nil⟩; rw [hn]; done)
          | (refine ⟨_, rfl, ?_, hp.nil⟩; rw [ha])))

theorem rencode_spec (s : List UInt8) (hl : s.length ≤ 1000000) : PureF Tryd.prog 15 [.string ⟨s.toArray⟩] (.string ⟨(enc s).toArray⟩) := by
  refine PureF.intro go15 Tryd.func15 rfl rfl fun w0 hp => ?_
  refine K_seq ?_
  refine K_region ?_
  refine W_assign rfl rfl ?_
  refine W_nil ?_
  refine N_then_k ?_
  refine K_seq ?_
  refine K_region ?_
  refine W_assign rfl rfl ?_
  refine W_nil ?_
  refine N_then_k ?_
  refine K_seq ?_
  refine K_region ?_
  refine W_assign rfl rfl ?_
  refine W_nil ?_
  refine N_then_k ?_
  refine K_seq ?_
  refine K_seq ?_
  refine K_region ?_
  refine W_assign rfl rfl ?_
  refine W_nil ?_
  refine N_then_k ?_
  refine K_block ?_
  refine K_loop (σ := Nat) [4, 5, 6, 7, 8, 9, 10, 11, 12, 13, 14, 15, 16, 17, 18, 19, 20, 21, 22, 23, 24, 25, 26, 27, 28, 29, 30, 31, 32, 33, 34, 35, 36, 37, 38, 39, 40, 41, 42, 43, 44, 45]
      (fun k => [(5, .int .i64 k), (4, .string ⟨(enc (s.take k)).toArray⟩)])
      (fun k w => Hp w0 [] [] w ∧ k ≤ s.length)
      (fun k => s.length - k) (0) ?_ ?_ ?_
  · repeat' (first | exact sub_lst_nil (sub_nil _) | refine sub_lst rfl ?_ | (refine sub_lst_eq rfl ?_ ?_; · first | rfl | (simp; done) | (congr 1; omega)))
  · exact ⟨hp, Nat.zero_le _⟩
  · intro k w hJ
    clear hp
    obtain ⟨hp, hle⟩ := hJ
    rcases Nat.lt_or_ge k (s.length) with hlt | hge
    all_goals (
     refine K_seq ?_
     refine K_seq ?_
     refine K_region ?_
     refine W_move rfl rfl ?_
     refine W_move rfl rfl ?_
     refine W_len_s Tryd.underlying9 rfl rfl ?_
     first
       | (refine W_lss_t rfl rfl ?_ rfl ?_; (focus (omega)))
       | (refine W_lss_f rfl rfl ?_ rfl ?_; (focus (omega)))
       | (refine W_lss rfl rfl rfl ?_)
     refine W_nil ?_
     refine N_then_k ?_
     first
       | refine K_cond_d rfl (fun hc1 => ?_) (fun hc1 => ?_)
       | refine K_cond_n rfl (fun hc1 => ?_) (fun hc1 => ?_)
       | refine K_cond_nb rfl (fun hc1 => ?_) (fun hc1 => ?_)
       | refine K_cond_t rfl (fun hc1 => ?_) (fun hc1 => ?_)
     · try (exfalso; first | omega | (simp only [Bool.false_eq_true, reduceCtorEq] at hc1; done) | (refine absurd hc1 ?_; with_reducible assumption) | (refine absurd ?_ hc1; with_reducible assumption))
       all_goals (
        refine K_skip ?_
        refine N_then_k ?_
        refine K_seq ?_
        refine K_block ?_
        refine K_seq ?_
        refine K_region ?_
        obtain ⟨c, hc⟩ : ∃ c, s[k]? = some c := ⟨_, List.getElem?_eq_getElem hlt⟩
        have hu := c.toNat_lt
        have hel := enc_cut s k
        refine W_move rfl rfl ?_
        refine W_move rfl rfl ?_
        refine W_index_s Tryd.underlying9 rfl rfl ?_ (by first | with_reducible assumption | assumption | exact rfl | exact idx_getD (by first | omega | (simp; omega))) rfl ?_
        (focus (omega))
        first
          | (refine W_conv_i Tryd.underlying5 Tryd.underlying3 rfl (wr_i64 ?_) rfl ?_; (focus (first | omega | (have := u8_lt ‹_›; omega))))
          | (refine W_conv_i Tryd.underlying5 Tryd.underlying3 rfl rfl rfl ?_)
        refine W_assign rfl rfl ?_
        refine W_nil ?_
        refine N_then_k ?_
        refine K_seq ?_
        refine K_region ?_
        refine W_move rfl rfl ?_
        refine W_move rfl rfl ?_
        refine W_index_s Tryd.underlying9 rfl rfl ?_ (by first | with_reducible assumption | assumption | exact rfl | exact idx_getD (by first | omega | (simp; omega))) rfl ?_
        (focus (omega))
        refine W_pcall hp rfl (class3_spec c) rfl ?_
        clear hp; intro w hp
        refine W_nil ?_
        refine N_then_k ?_
        first
          | refine K_cond_d rfl (fun hc2 => ?_) (fun hc2 => ?_)
          | refine K_cond_n rfl (fun hc2 => ?_) (fun hc2 => ?_)
          | refine K_cond_nb rfl (fun hc2 => ?_) (fun hc2 => ?_)
          | refine K_cond_t rfl (fun hc2 => ?_) (fun hc2 => ?_)
        · try (exfalso; first | omega | (simp only [Bool.false_eq_true, reduceCtorEq] at hc2; done) | (refine absurd hc2 ?_; with_reducible assumption) | (refine absurd ?_ hc2; with_reducible assumption))
          all_goals (
           refine K_region ?_
           refine W_move rfl rfl ?_
           refine W_move rfl rfl ?_
           refine W_move rfl rfl ?_
           refine W_move rfl rfl ?_
           first
             | (refine W_add rfl rfl (wr_i64 ?_) rfl ?_; (focus (omega)))
             | (refine W_add rfl rfl rfl rfl ?_)
           refine W_slice_slh Tryd.underlying9 rfl rfl rfl ?_ ?_ ?_ rfl ?_
           (focus (first | omega | (simp; omega) | (simp only [List.length_drop, List.length_take, List.length_append]; omega)))
           (focus (first | omega | (simp; omega) | (simp only [List.length_drop, List.length_take, List.length_append]; omega)))
           (focus (first | omega | (simp; omega) | (simp only [List.length_drop, List.length_take, List.length_append]; omega)))
           refine W_sadd rfl rfl ?_ rfl ?_
           (focus (first | omega | (simp only [List.length_append, List.length_cons, List.length_nil, List.length_drop, List.length_take] at *; omega) | (simp; omega)))
           refine W_assign rfl rfl ?_
           refine W_nil ?_
           refine N_block_normal ?_
           refine N_then_k ?_
           refine K_region ?_
           refine W_move rfl rfl ?_
           first
             | (refine W_add rfl rfl (wr_i64 ?_) rfl ?_; (focus (omega)))
             | (refine W_add rfl rfl rfl rfl ?_)
           refine W_assign rfl rfl ?_
           refine W_nil ?_
           refine N_again (k + 1) (sub_end ?_ ?_) ?_ ?_
           · repeat' (first | exact sub_lst_nil (sub_nil _) | refine sub_lst rfl ?_ | (refine sub_lst_eq rfl ?_ ?_; · first | rfl | (refine congrArg strV (Eq.symm ?_); rw [enc_take hc]; unfold encC; first | (rw [if_pos (by assumption), cut_one hc]; done) | (rw [if_neg (by assumption), cut_dig (by omega), cut_dig (by omega), show ((c.toNat : Int) / 16).toNat = c.toNat / 16 by omega, show ((c.toNat : Int) % 16).toNat = c.toNat % 16 by omega]; simp)) | (simp; done) | (congr 1; omega)))
           · repeat' (first | exact sub_refl _ | exact sub_strip _ _ | refine sub_s_cons rfl ?_ | refine sub_s_lst rfl ?_ | refine sub_s_strip rfl ?_)
           · refine ⟨hp, hlt⟩
           · omega)
        · try (exfalso; first | omega | (simp only [Bool.false_eq_true, reduceCtorEq] at hc2; done) | (refine absurd hc2 ?_; with_reducible assumption) | (refine absurd ?_ hc2; with_reducible assumption))
          all_goals (
           refine K_quiet hm hp (by kernel_rfl) ?_
           clear hp
           refine Wq_val (fun w hp => R_move rfl) rfl ?_
           refine Wq_val (fun w hp => R_sadd rfl rfl ?_) rfl ?_
           (focus (first | omega | (simp only [List.length_append, List.length_cons, List.length_nil, List.length_drop, List.length_take] at *; omega) | (simp; omega)))
           refine Wq_val (fun w hp => R_move rfl) rfl ?_
           refine Wq_val (fun w hp => R_move rfl) rfl ?_
           first
             | (refine Wq_val (fun w hp => R_quo rfl rfl ?_ (quo_nn ?_ (wr_i64 ?_))) rfl ?_; (focus (omega)); (focus (omega)); (focus (omega)))
             | (refine Wq_val (fun w hp => R_quo rfl rfl ?_ rfl) rfl ?_; (focus (omega)))
           refine Wq_val (fun w hp => R_move rfl) rfl ?_
           first
             | (refine Wq_val (fun w hp => R_quo rfl rfl ?_ (quo_nn ?_ (wr_i64 ?_))) rfl ?_; (focus (omega)); (focus (omega)); (focus (omega)))
             | (refine Wq_val (fun w hp => R_quo rfl rfl ?_ rfl) rfl ?_; (focus (omega)))
           first
             | (refine Wq_val (fun w hp => R_add rfl rfl (wr_i64 ?_)) rfl ?_; (focus (omega)))
             | (refine Wq_val (fun w hp => R_add rfl rfl rfl) rfl ?_)
           refine Wq_val (fun w hp => R_slice_slh Tryd.underlying9 (a := [48, 49, 50, 51, 52, 53, 54, 55, 56, 57, 65, 66, 67, 68, 69, 70]) rfl rfl rfl (by omega) (by omega) (by simp; omega)) rfl ?_
           refine Wq_val (fun w hp => R_sadd rfl rfl ?_) rfl ?_
           (focus (first | omega | (simp only [List.length_append, List.length_cons, List.length_nil, List.length_drop, List.length_take] at *; omega) | (simp; omega)))
           refine Wq_val (fun w hp => R_move rfl) rfl ?_
           refine Wq_val (fun w hp => R_move rfl) rfl ?_
           first
             | (refine Wq_val (fun w hp => R_rem rfl rfl ?_ (rem_nn ?_)) rfl ?_; (focus (omega)); (focus (omega)))
             | (refine Wq_val (fun w hp => R_rem rfl rfl ?_ rfl) rfl ?_; (focus (omega)))
           refine Wq_val (fun w hp => R_move rfl) rfl ?_
           first
             | (refine Wq_val (fun w hp => R_rem rfl rfl ?_ (rem_nn ?_)) rfl ?_; (focus (omega)); (focus (omega)))
             | (refine Wq_val (fun w hp => R_rem rfl rfl ?_ rfl) rfl ?_; (focus (omega)))
           first
             | (refine Wq_val (fun w hp => R_add rfl rfl (wr_i64 ?_)) rfl ?_; (focus (omega)))
             | (refine Wq_val (fun w hp => R_add rfl rfl rfl) rfl ?_)
           refine Wq_val (fun w hp => R_slice_slh Tryd.underlying9 (a := [48, 49, 50, 51, 52, 53, 54, 55, 56, 57, 65, 66, 67, 68, 69, 70]) rfl rfl rfl (by omega) (by omega) (by simp; omega)) rfl ?_
           refine Wq_val (fun w hp => R_sadd rfl rfl ?_) rfl ?_
           (focus (first | omega | (simp only [List.length_append, List.length_cons, List.length_nil, List.length_drop, List.length_take] at *; omega) | (simp; omega)))
           refine Wq_val (fun w hp => R_assign rfl) rfl ?_
           refine Wq_end ?_
           intro w hp
           refine N_block_normal ?_
           refine N_then_k ?_
           refine K_region ?_
           refine W_move rfl rfl ?_
           first
             | (refine W_add rfl rfl (wr_i64 ?_) rfl ?_; (focus (omega)))
             | (refine W_add rfl rfl rfl rfl ?_)
           refine W_assign rfl rfl ?_
           refine W_nil ?_
           refine N_again (k + 1) (sub_end ?_ ?_) ?_ ?_
           · repeat' (first | exact sub_lst_nil (sub_nil _) | refine sub_lst rfl ?_ | (refine sub_lst_eq rfl ?_ ?_; · first | rfl | (refine congrArg strV (Eq.symm ?_); rw [enc_take hc]; unfold encC; first | (rw [if_pos (by assumption), cut_one hc]; done) | (rw [if_neg (by assumption), cut_dig (by omega), cut_dig (by omega), show ((c.toNat : Int) / 16).toNat = c.toNat / 16 by omega, show ((c.toNat : Int) % 16).toNat = c.toNat % 16 by omega]; simp)) | (simp; done) | (congr 1; omega)))
           · repeat' (first | exact sub_refl _ | exact sub_strip _ _ | refine sub_s_cons rfl ?_ | refine sub_s_lst rfl ?_ | refine sub_s_strip rfl ?_)
           · refine ⟨hp, hlt⟩
           · omega))
     · try (exfalso; first | omega | (simp only [Bool.false_eq_true, reduceCtorEq] at hc1; done) | (refine absurd hc1 ?_; with_reducible assumption) | (refine absurd ?_ hc1; with_reducible assumption))
       all_goals (
        refine K_exit ?_
        refine N_then_exit ?_
        refine N_then_exit ?_
        refine N_block_exit ?_
        refine N_then_k ?_
        refine K_seq ?_
        refine K_region ?_
        refine W_move rfl rfl ?_
        refine W_assign rfl rfl ?_
        refine W_nil ?_
        refine N_then_k ?_
        refine K_ret ?_
        refine N_done1 (.inr rfl) rfl rfl ?_
        refine ⟨_, rfl, ?_, hp.nil⟩
        rw [List.take_of_length_le hge]))

theorem rtriples_spec (s : List UInt8) (hl : s.length ≤ 1000000) : PureF Tryd.prog 12 [.string ⟨s.toArray⟩] (.int .i64 (triN s : Int)) := by
  refine PureF.intro go12 Tryd.func12 rfl rfl fun w0 hp => ?_
  refine K_seq ?_
  refine K_region ?_
  refine W_assign rfl rfl ?_
  refine W_nil ?_
  refine N_then_k ?_
  refine K_seq ?_
  refine K_region ?_
  rcases decT_two s with ⟨a, hD⟩ | ⟨n, hD⟩
  all_goals (
   refine W_move rfl rfl ?_
   first
     | (refine W_pcall hp rfl ((rdecode_spec s hl).eq (rdec_ok hD)) rfl ?_)
     | (refine W_pcall hp rfl ((rdecode_spec s hl).eq (rdec_bad hD)) rfl ?_)
   clear hp; intro w hp
   refine W_move rfl rfl ?_
   refine W_extract rfl rfl rfl ?_
   refine W_extract rfl rfl rfl ?_
   refine W_assign rfl rfl ?_
   refine W_assign rfl rfl ?_
   refine W_nil ?_
   refine N_then_k ?_
   refine K_seq ?_
   refine K_seq ?_
   refine K_region ?_
   refine W_move rfl rfl ?_
   first
     | (refine W_geq_t rfl rfl ?_ rfl ?_; (focus (omega)))
     | (refine W_geq_f rfl rfl ?_ rfl ?_; (focus (omega)))
     | (refine W_geq rfl rfl rfl ?_)
   refine W_nil ?_
   refine N_then_k ?_
   first
     | refine K_cond_d rfl (fun hc1 => ?_) (fun hc1 => ?_)
     | refine K_cond_n rfl (fun hc1 => ?_) (fun hc1 => ?_)
     | refine K_cond_nb rfl (fun hc1 => ?_) (fun hc1 => ?_)
     | refine K_cond_t rfl (fun hc1 => ?_) (fun hc1 => ?_)
   · try (exfalso; first | omega | (simp only [Bool.false_eq_true, reduceCtorEq] at hc1; done) | (refine absurd hc1 ?_; with_reducible assumption) | (refine absurd ?_ hc1; with_reducible assumption))
     all_goals (
      refine K_seq ?_
      refine K_region ?_
      refine W_assign rfl rfl ?_
      refine W_nil ?_
      refine N_then_k ?_
      refine K_ret ?_
      refine N_then_ret ?_
      refine N_done1 (.inr rfl) rfl rfl ?_
      refine ⟨_, rfl, congrArg (Value.int .i64) ?_, hp.nil⟩
      first
        | (rw [triN_bad hD]; rfl)
        | (rw [triN_ok hD, List.take_of_length_le hge]))
   · try (exfalso; first | omega | (simp only [Bool.false_eq_true, reduceCtorEq] at hc1; done) | (refine absurd hc1 ?_; with_reducible assumption) | (refine absurd ?_ hc1; with_reducible assumption))
     all_goals (
      refine K_skip ?_
      refine N_then_k ?_
      refine K_seq ?_
      refine K_region ?_
      refine W_assign rfl rfl ?_
      refine W_nil ?_
      refine N_then_k ?_
      refine K_seq ?_
      refine K_seq ?_
      refine K_region ?_
      refine W_assign rfl rfl ?_
      refine W_nil ?_
      refine N_then_k ?_
      refine K_block ?_
      refine K_loop (σ := Nat) [5, 6, 14, 15, 16, 17, 18, 19, 20, 21, 22, 23, 24, 25]
          (fun k => [(6, .int .i64 k), (5, .int .i64 (cnt37 (s.take k) : Int))])
          (fun k w => Hp w0 [] [] w ∧ k ≤ s.length)
          (fun k => s.length - k) (0) ?_ ?_ ?_
      · repeat' (first | exact sub_lst_nil (sub_nil _) | refine sub_lst rfl ?_ | (refine sub_lst_eq rfl ?_ ?_; · first | rfl | (simp; done) | (congr 1; omega)))
      · exact ⟨hp, Nat.zero_le _⟩
      · intro k w hJ
        clear hp
        obtain ⟨hp, hle⟩ := hJ
        rcases Nat.lt_or_ge k (s.length) with hlt | hge
        all_goals (
         refine K_seq ?_
         refine K_seq ?_
         refine K_region ?_
         refine W_move rfl rfl ?_
         refine W_move rfl rfl ?_
         refine W_len_s Tryd.underlying9 rfl rfl ?_
         first
           | (refine W_lss_t rfl rfl ?_ rfl ?_; (focus (omega)))
           | (refine W_lss_f rfl rfl ?_ rfl ?_; (focus (omega)))
           | (refine W_lss rfl rfl rfl ?_)
         refine W_nil ?_
         refine N_then_k ?_
         first
           | refine K_cond_d rfl (fun hc2 => ?_) (fun hc2 => ?_)
           | refine K_cond_n rfl (fun hc2 => ?_) (fun hc2 => ?_)
           | refine K_cond_nb rfl (fun hc2 => ?_) (fun hc2 => ?_)
           | refine K_cond_t rfl (fun hc2 => ?_) (fun hc2 => ?_)
         · try (exfalso; first | omega | (simp only [Bool.false_eq_true, reduceCtorEq] at hc2; done) | (refine absurd hc2 ?_; with_reducible assumption) | (refine absurd ?_ hc2; with_reducible assumption))
           all_goals (
            refine K_skip ?_
            refine N_then_k ?_
            refine K_seq ?_
            refine K_block ?_
            refine K_seq ?_
            refine K_region ?_
            obtain ⟨c, hc⟩ : ∃ c, s[k]? = some c := ⟨_, List.getElem?_eq_getElem hlt⟩
            have hcl := cnt37_le (s.take k)
            have htl : (s.take k).length ≤ s.length := by simp; omega
            refine W_move rfl rfl ?_
            refine W_move rfl rfl ?_
            refine W_index_s Tryd.underlying9 rfl rfl ?_ (by first | with_reducible assumption | assumption | exact rfl | exact idx_getD (by first | omega | (simp; omega))) rfl ?_
            (focus (omega))
            first
              | (refine W_eql_t rfl rfl ?_ rfl ?_; (focus (omega)))
              | (refine W_eql_f rfl rfl ?_ rfl ?_; (focus (omega)))
              | (refine W_eql rfl rfl rfl ?_)
            refine W_nil ?_
            refine N_then_k ?_
            first
              | refine K_cond_d rfl (fun hc3 => ?_) (fun hc3 => ?_)
              | refine K_cond_n rfl (fun hc3 => ?_) (fun hc3 => ?_)
              | refine K_cond_nb rfl (fun hc3 => ?_) (fun hc3 => ?_)
              | refine K_cond_t rfl (fun hc3 => ?_) (fun hc3 => ?_)
            · try (exfalso; first | omega | (simp only [Bool.false_eq_true, reduceCtorEq] at hc3; done) | (refine absurd hc3 ?_; with_reducible assumption) | (refine absurd ?_ hc3; with_reducible assumption))
              all_goals (
               refine K_region ?_
               refine W_move rfl rfl ?_
               first
                 | (refine W_add rfl rfl (wr_i64 ?_) rfl ?_; (focus (omega)))
                 | (refine W_add rfl rfl rfl rfl ?_)
               refine W_assign rfl rfl ?_
               refine W_nil ?_
               refine N_block_normal ?_
               refine N_then_k ?_
               refine K_region ?_
               refine W_move rfl rfl ?_
               first
                 | (refine W_add rfl rfl (wr_i64 ?_) rfl ?_; (focus (omega)))
                 | (refine W_add rfl rfl rfl rfl ?_)
               refine W_assign rfl rfl ?_
               refine W_nil ?_
               refine N_again (k + 1) (sub_end ?_ ?_) ?_ ?_
               · repeat' (first | exact sub_lst_nil (sub_nil _) | refine sub_lst rfl ?_ | (refine sub_lst_eq rfl ?_ ?_; · first | rfl | (refine congrArg (Value.int .i64) ?_; rw [cnt37_take hc]; first | (rw [if_pos (eq37 (by omega))]; rfl) | (rw [if_neg (ne37 (by omega))]; rfl)) | (simp; done) | (congr 1; omega)))
               · repeat' (first | exact sub_refl _ | exact sub_strip _ _ | refine sub_s_cons rfl ?_ | refine sub_s_lst rfl ?_ | refine sub_s_strip rfl ?_)
               · refine ⟨hp, hlt⟩
               · omega)
            · try (exfalso; first | omega | (simp only [Bool.false_eq_true, reduceCtorEq] at hc3; done) | (refine absurd hc3 ?_; with_reducible assumption) | (refine absurd ?_ hc3; with_reducible assumption))
              all_goals (
               refine K_skip ?_
               refine N_block_normal ?_
               refine N_then_k ?_
               refine K_region ?_
               refine W_move rfl rfl ?_
               first
                 | (refine W_add rfl rfl (wr_i64 ?_) rfl ?_; (focus (omega)))
                 | (refine W_add rfl rfl rfl rfl ?_)
               refine W_assign rfl rfl ?_
               refine W_nil ?_
               refine N_again (k + 1) (sub_end ?_ ?_) ?_ ?_
               · repeat' (first | exact sub_lst_nil (sub_nil _) | refine sub_lst rfl ?_ | (refine sub_lst_eq rfl ?_ ?_; · first | rfl | (refine congrArg (Value.int .i64) ?_; rw [cnt37_take hc]; first | (rw [if_pos (eq37 (by omega))]; rfl) | (rw [if_neg (ne37 (by omega))]; rfl)) | (simp; done) | (congr 1; omega)))
               · repeat' (first | exact sub_refl _ | exact sub_strip _ _ | refine sub_s_cons rfl ?_ | refine sub_s_lst rfl ?_ | refine sub_s_strip rfl ?_)
               · refine ⟨hp, hlt⟩
               · omega))
         · try (exfalso; first | omega | (simp only [Bool.false_eq_true, reduceCtorEq] at hc2; done) | (refine absurd hc2 ?_; with_reducible assumption) | (refine absurd ?_ hc2; with_reducible assumption))
           all_goals (
            refine K_exit ?_
            refine N_then_exit ?_
            refine N_then_exit ?_
            refine N_block_exit ?_
            refine N_then_k ?_
            refine K_seq ?_
            refine K_region ?_
            refine W_move rfl rfl ?_
            refine W_assign rfl rfl ?_
            refine W_nil ?_
            refine N_then_k ?_
            refine K_ret ?_
            refine N_done1 (.inr rfl) rfl rfl ?_
            refine ⟨_, rfl, congrArg (Value.int .i64) ?_, hp.nil⟩
            first
              | (rw [triN_bad hD]; rfl)
              | (rw [triN_ok hD, List.take_of_length_le hge])))))

end Go.Proofs.YtbccjajnjndlbaaDoor
