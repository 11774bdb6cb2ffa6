/-
  Package percent and its reference, walked.
-/
import Derived.Test.YtbccjajnjndlbaaDoorPct
namespace Go.Proofs.YtbccjajnjndlbaaDoor
open Go.Sx Go.RowKit
set_option linter.unusedVariables false
set_option linter.unusedSimpArgs false
set_option maxRecDepth 100000

theorem tri_form (s : List UInt8) : (s.length < 3 ∧ triV s = .tuple #[.int .u8 0, .bool false]) ∨
    (∃ x y, 3 ≤ s.length ∧ s[1]? = some x ∧ s[2]? = some y ∧ ((0 ≤ hexI x.toNat ∧ 0 ≤ hexI y.toNat ∧ triV s = .tuple #[.int .u8 (hexI x.toNat * 16 + hexI y.toNat), .bool true]) ∨ (0 ≤ hexI x.toNat ∧ hexI y.toNat < 0 ∧ triV s = .tuple #[.int .u8 (hexI x.toNat * 16), .bool false]) ∨
      (hexI x.toNat < 0 ∧ 0 ≤ hexI y.toNat ∧ triV s = .tuple #[.int .u8 (hexI y.toNat), .bool false]) ∨ (hexI x.toNat < 0 ∧ hexI y.toNat < 0 ∧ triV s = .tuple #[.int .u8 0, .bool false]))) := by
  rcases s with _ | ⟨c, _ | ⟨x, _ | ⟨y, r⟩⟩⟩
  · exact .inl ⟨by decide, rfl⟩
  · exact .inl ⟨by simp, rfl⟩
  · exact .inl ⟨by simp, rfl⟩
  · refine .inr ⟨x, y, by simp, rfl, rfl, ?_⟩
    have hrx := hexI_range x.toNat
    have hry := hexI_range y.toNat
    rcases Int.lt_or_le (hexI x.toNat) 0 with h1 | h1 <;> rcases Int.lt_or_le (hexI y.toNat) 0 with h2 | h2
    · refine .inr (.inr (.inr ⟨h1, h2, ?_⟩))
      simp only [triV, if_pos h1, if_pos h2, decide_eq_false (show ¬ 0 ≤ hexI x.toNat by omega), Bool.false_and]; rfl
    · refine .inr (.inr (.inl ⟨h1, h2, ?_⟩))
      simp only [triV, if_pos h1, if_neg (show ¬ hexI y.toNat < 0 by omega), decide_eq_false (show ¬ 0 ≤ hexI x.toNat by omega), Bool.false_and]; rw [wr_byte (by omega), show (0 : Int) * 16 + hexI y.toNat = hexI y.toNat by omega]
    · refine .inr (.inl ⟨h1, h2, ?_⟩)
      simp only [triV, if_neg (show ¬ hexI x.toNat < 0 by omega), if_pos h2, decide_eq_false (show ¬ 0 ≤ hexI y.toNat by omega), Bool.and_false]; rw [wr_byte (by omega), show hexI x.toNat * 16 + 0 = hexI x.toNat * 16 by omega]
    · refine .inl ⟨h1, h2, ?_⟩
      simp only [triV, if_neg (show ¬ hexI x.toNat < 0 by omega), if_neg (show ¬ hexI y.toNat < 0 by omega), decide_eq_true h1, decide_eq_true h2, Bool.and_self]; rw [wr_byte (by omega)]
theorem hex_yes (c : UInt8) (h : 0 ≤ hexI c.toNat) : PureF Tryd.prog 29 [.int .u8 (c.toNat : Int)] (.tuple #[.int .i64 (hexI c.toNat), .bool true]) :=
  (hex_spec c).eq (by rw [if_neg (by omega), decide_eq_true h])
theorem hex_not (c : UInt8) (h : hexI c.toNat < 0) : PureF Tryd.prog 29 [.int .u8 (c.toNat : Int)] (.tuple #[.int .i64 0, .bool false]) :=
  (hex_spec c).eq (by rw [if_pos h, decide_eq_false (by omega)])

theorem triple_spec (s : List UInt8) (hl : s.length ≤ 1000000) : PureF Tryd.prog 18 [.string ⟨s.toArray⟩] (triV s) := by
  rcases tri_form s with ⟨h3, ht⟩ | ⟨x, y, h3, h1, h2, ⟨hx, hy, ht⟩ | ⟨hx, hy, ht⟩ | ⟨hx, hy, ht⟩ | ⟨hx, hy, ht⟩⟩
  all_goals rw [ht]
  all_goals clear ht
  all_goals try have hrx := hexI_range x.toNat
  all_goals try have hry := hexI_range y.toNat
  all_goals (
   refine PureF.intro go18 Tryd.func18 rfl rfl fun w0 hp => ?_
   refine K_seq ?_
   refine K_region ?_
   refine W_assign rfl rfl ?_
   refine W_assign rfl rfl ?_
   refine W_nil ?_
   refine N_then_k ?_
   refine K_seq ?_
   refine K_seq ?_
   refine K_region ?_
   refine W_move rfl rfl ?_
   refine W_len_s Tryd.underlying9 rfl rfl ?_
   first
     | (refine W_lss_t rfl rfl ?_ rfl ?_; (focus (omega)))
     | (refine W_lss_f rfl rfl ?_ rfl ?_; (focus (omega)))
     | (refine W_lss rfl rfl rfl ?_)
   refine W_nil ?_
   refine N_then_k ?_
   first
     | refine K_cond_d rfl (fun hc1 => ?_) (fun hc1 => ?_)
     | refine K_cond_n rfl (fun hc1 => ?_) (fun hc1 => ?_)
     | refine K_cond_nb rfl (fun hc1 => ?_) (fun hc1 => ?_)
     | refine K_cond_t rfl (fun hc1 => ?_) (fun hc1 => ?_)
   · try (exfalso; first | omega | (simp only [Bool.false_eq_true, reduceCtorEq] at hc1; done) | (refine absurd hc1 ?_; with_reducible assumption) | (refine absurd ?_ hc1; with_reducible assumption))
     all_goals (
      refine K_seq ?_
      refine K_region ?_
      refine W_assign rfl rfl ?_
      refine W_assign rfl rfl ?_
      refine W_nil ?_
      refine N_then_k ?_
      refine K_ret ?_
      refine N_then_ret ?_
      refine N_done2 (.inr rfl) rfl rfl rfl ?_
      first
        | exact ⟨_, rfl, rfl, hp.nil⟩
        | exact ⟨_, rfl, congrArg (fun x => Value.tuple #[.int .u8 x, .bool _]) (by omega), hp.nil⟩)
   · try (exfalso; first | omega | (simp only [Bool.false_eq_true, reduceCtorEq] at hc1; done) | (refine absurd hc1 ?_; with_reducible assumption) | (refine absurd ?_ hc1; with_reducible assumption))
     all_goals (
      refine K_skip ?_
      refine N_then_k ?_
      refine K_seq ?_
      refine K_region ?_
      refine W_move rfl rfl ?_
      refine W_index_s Tryd.underlying9 rfl rfl ?_ (by first | with_reducible assumption | assumption | exact rfl | exact idx_getD (by first | omega | (simp; omega))) rfl ?_
      (focus (omega))
      first
        | (refine W_pcall hp rfl (hex_yes x (by assumption)) rfl ?_)
        | (refine W_pcall hp rfl (hex_not x (by assumption)) rfl ?_)
      clear hp; intro w hp
      refine W_move rfl rfl ?_
      refine W_extract rfl rfl rfl ?_
      refine W_extract rfl rfl rfl ?_
      refine W_assign rfl rfl ?_
      refine W_assign rfl rfl ?_
      refine W_nil ?_
      refine N_then_k ?_
      refine K_seq ?_
      refine K_region ?_
      refine W_move rfl rfl ?_
      refine W_index_s Tryd.underlying9 rfl rfl ?_ (by first | with_reducible assumption | assumption | exact rfl | exact idx_getD (by first | omega | (simp; omega))) rfl ?_
      (focus (omega))
      first
        | (refine W_pcall hp rfl (hex_yes y (by assumption)) rfl ?_)
        | (refine W_pcall hp rfl (hex_not y (by assumption)) rfl ?_)
      clear hp; intro w hp
      refine W_move rfl rfl ?_
      refine W_extract rfl rfl rfl ?_
      refine W_extract rfl rfl rfl ?_
      refine W_assign rfl rfl ?_
      refine W_assign rfl rfl ?_
      refine W_nil ?_
      refine N_then_k ?_
      refine K_seq ?_
      refine K_region ?_
      refine W_move rfl rfl ?_
      first
        | (refine W_mul rfl rfl (wr_i64 ?_) rfl ?_; (focus (omega)))
        | (refine W_mul rfl rfl rfl rfl ?_)
      refine W_move rfl rfl ?_
      first
        | (refine W_add rfl rfl (wr_i64 ?_) rfl ?_; (focus (omega)))
        | (refine W_add rfl rfl rfl rfl ?_)
      first
        | (refine W_conv_i Tryd.underlying3 Tryd.underlying5 rfl (wr_u8 ?_) rfl ?_; (focus (first | omega | (have := u8_lt ‹_›; omega))))
        | (refine W_conv_i Tryd.underlying3 Tryd.underlying5 rfl rfl rfl ?_)
      refine W_move rfl rfl ?_
      refine W_move rfl rfl ?_
      first
        | refine W_guard_lit_t rfl ?_
        | refine W_guard_lit_f rfl ?_
        | refine W_guard_lit_u rfl ?_
        | refine W_guard_split_d rfl rfl rfl (fun hg2 => ?_) (fun hg2 => ?_)
        | refine W_guard_split_n rfl rfl rfl (fun hg2 => ?_) (fun hg2 => ?_)
        | refine W_guard_split_nb rfl rfl rfl (fun hg2 => ?_) (fun hg2 => ?_)
        | refine W_guard_split rfl rfl rfl (fun hg2 => ?_) (fun hg2 => ?_)
      all_goals try (exfalso; first | omega | (simp only [Bool.false_eq_true, reduceCtorEq] at hg2; done) | (refine absurd hg2 ?_; with_reducible assumption) | (refine absurd ?_ hg2; with_reducible assumption))
      all_goals (
       first
         | (refine W_guard_no rfl rfl rfl ?_)
         | (refine W_guard_un rfl rfl ?_)
         | (refine W_guard_yes rfl ?_
            refine W_move rfl rfl ?_)
       first
         | (refine W_pick_t rfl rfl rfl ?_)
         | (refine W_pick_f rfl rfl rfl ?_)
         | (refine W_pick_b rfl rfl rfl rfl ?_)
       refine W_assign rfl rfl ?_
       refine W_assign rfl rfl ?_
       refine W_nil ?_
       refine N_then_k ?_
       refine K_ret ?_
       refine N_done2 (.inr rfl) rfl rfl rfl ?_
       first
         | exact ⟨_, rfl, rfl, hp.nil⟩
         | exact ⟨_, rfl, congrArg (fun x => Value.tuple #[.int .u8 x, .bool _]) (by omega), hp.nil⟩)))

set_option maxHeartbeats 400000 in
theorem decode_spec (s : List UInt8) (hl : s.length ≤ 1000000) : PureF Tryd.prog 8 [.string ⟨s.toArray⟩] (decV s) := by
  refine PureF.intro go8 Tryd.func8 rfl rfl fun w0 hp => ?_
  refine K_seq ?_
  refine K_region ?_
  refine W_assign rfl rfl ?_
  refine W_assign rfl rfl ?_
  refine W_nil ?_
  refine N_then_k ?_
  refine K_seq ?_
  refine K_region ?_
  refine W_alloc hp zv39 rfl rfl ?_
  clear hp; intro b4 w hp
  refine W_nil ?_
  refine N_then_k ?_
  refine K_seq ?_
  refine K_region ?_
  refine W_assign rfl rfl ?_
  refine W_nil ?_
  refine N_then_k ?_
  refine K_seq ?_
  refine K_seq ?_
  refine K_region ?_
  refine W_move rfl rfl ?_
  refine W_conv_sb hp Tryd.underlying9 Tryd.underlying37 Tryd.underlying5 rfl (by omega) rfl ?_
  clear hp; intro bc cp zs fz w hzs hcm hfz hp
  replace hp := hp.drop (List.sublist_cons_self _ _)
  refine W_len_sl Tryd.underlying37 rfl rfl ?_
  refine W_move rfl rfl ?_
  refine W_nil ?_
  refine N_then_k ?_
  refine K_block ?_
  refine K_loop (σ := Nat × Nat × List UInt8 × Heap) [2, 3, 5, 6, 7, 8, 9, 13, 14, 15, 16, 17, 18, 19, 20, 21, 22, 23, 24, 25, 26, 27, 28, 29, 30, 31, 32, 33, 34, 35, 36, 37, 38, 39, 40, 41]
      (fun q => [(13, .int .i64 q.1), (5, .int .i64 q.2.1)])
      (fun q w => BH b4 q.2.2.1 q.2.2.2 ∧ Hp w0 [] q.2.2.2 w ∧ q.1 + q.2.1 ≤ s.length ∧ q.2.1 ≤ 2 ∧ q.2.2.1.length ≤ q.1 + q.2.1 ∧ decT s = joinT q.2.2.1 (q.1 + q.2.1) (decT (s.drop (q.1 + q.2.1))))
      (fun q => s.length - q.1) ((0, 0, [], [(b4, .cells [.pointer none, .slice none 0 0].toArray 39)])) ?_ ?_ ?_
  · repeat' (first | exact sub_lst_nil (sub_nil _) | refine sub_lst rfl ?_ | (refine sub_lst_eq rfl ?_ ?_; · first | rfl | (simp; done) | (congr 1; omega)))
  · exact ⟨BH.new b4, hp, Nat.zero_le _, Nat.zero_le _, Nat.le_refl _, joinT_zero s⟩
  · intro ⟨i, k, a, H⟩ w hJ
    clear hp
    obtain ⟨hb, hp, hle, hk2, ha, hinv⟩ := hJ
    simp only at hb hp hle hk2 ha hinv
    change K _ _ _ _ (.lst ([(13, .int .i64 i), (5, .int .i64 k)]) _) _
    rcases Nat.lt_or_ge i s.length with hlt | hge
    all_goals (
     refine K_seq ?_
     refine K_region ?_
     first
       | (refine W_lss_t rfl rfl ?_ rfl ?_; (focus (omega)))
       | (refine W_lss_f rfl rfl ?_ rfl ?_; (focus (omega)))
       | (refine W_lss rfl rfl rfl ?_)
     refine W_nil ?_
     refine N_then_k ?_
     refine K_seq ?_
     first
       | refine K_cond_d rfl (fun hc1 => ?_) (fun hc1 => ?_)
       | refine K_cond_n rfl (fun hc1 => ?_) (fun hc1 => ?_)
       | refine K_cond_nb rfl (fun hc1 => ?_) (fun hc1 => ?_)
       | refine K_cond_t rfl (fun hc1 => ?_) (fun hc1 => ?_)
     · try (exfalso; first | omega | (simp only [Bool.false_eq_true, reduceCtorEq] at hc1; done) | (refine absurd hc1 ?_; with_reducible assumption) | (refine absurd ?_ hc1; with_reducible assumption))
       all_goals (
        refine K_skip ?_
        refine N_then_k ?_
        refine K_seq ?_
        refine K_block ?_
        refine K_seq ?_
        refine K_region ?_
        refine W_move rfl rfl ?_
        refine W_assign rfl rfl ?_
        refine W_nil ?_
        refine N_then_k ?_
        refine K_seq ?_
        refine K_region ?_
        obtain ⟨c, hc⟩ : ∃ c, s[i]? = some c := ⟨_, List.getElem?_eq_getElem hlt⟩
        refine W_move rfl rfl ?_
        refine W_move rfl rfl ?_
        refine W_index_s Tryd.underlying9 rfl rfl ?_ (by first | with_reducible assumption | assumption | exact rfl | exact idx_getD (by first | omega | (simp; omega))) rfl ?_
        (focus (omega))
        refine W_assign rfl rfl ?_
        refine W_nil ?_
        refine N_then_k ?_
        refine K_seq ?_
        refine K_block ?_
        refine K_seq ?_
        refine K_region ?_
        rcases dec_at2 hc hinv with hk | ⟨rfl, ⟨h37, hn⟩ | ⟨x, y, h37, hx, hy, hx0, hy0, h3, ht, hn⟩ | ⟨bb, h37, h2, ht, hn⟩ | ⟨x, y, bb, h37, hx, hy, hx0, h3, ht, hn⟩ | ⟨x, y, bb, h37, hx, hy, hx0, hy0, h3, ht, hn⟩⟩
        all_goals (
         refine W_move rfl rfl ?_
         first
           | (refine W_gtr_t rfl rfl ?_ rfl ?_; (focus (omega)))
           | (refine W_gtr_f rfl rfl ?_ rfl ?_; (focus (omega)))
           | (refine W_gtr rfl rfl rfl ?_)
         refine W_assign rfl rfl ?_
         refine W_nil ?_
         refine N_then_k ?_
         first
           | refine K_cond_d rfl (fun hc2 => ?_) (fun hc2 => ?_)
           | refine K_cond_n rfl (fun hc2 => ?_) (fun hc2 => ?_)
           | refine K_cond_nb rfl (fun hc2 => ?_) (fun hc2 => ?_)
           | refine K_cond_t rfl (fun hc2 => ?_) (fun hc2 => ?_)
         · try (exfalso; first | omega | (simp only [Bool.false_eq_true, reduceCtorEq] at hc2; done) | (refine absurd hc2 ?_; with_reducible assumption) | (refine absurd ?_ hc2; with_reducible assumption))
           all_goals (
            refine K_seq ?_
            refine K_region ?_
            refine W_move rfl rfl ?_
            first
              | (refine W_sub rfl rfl (wr_i64 ?_) rfl ?_; (focus (omega)))
              | (refine W_sub rfl rfl rfl rfl ?_)
            refine W_assign rfl rfl ?_
            refine W_nil ?_
            refine N_then_k ?_
            refine K_exit ?_
            refine N_block_other rfl ?_
            refine N_then_exit ?_
            refine N_block_exit ?_
            refine N_then_k ?_
            refine K_region ?_
            first
              | (refine W_add rfl rfl (wr_i64 ?_) rfl ?_; (focus (omega)))
              | (refine W_add rfl rfl rfl rfl ?_)
            refine W_move rfl rfl ?_
            refine W_nil ?_
            first
              | (refine N_again (i + 1, k - 1, a, H) (sub_end ?_ ?_) ⟨hb, hp, by dsimp only; omega, by dsimp only; omega, by dsimp only; omega, by dsimp only; rw [show i + 1 + (k - 1) = i + k by omega]; exact hinv⟩ ?_
                 · repeat' (first | exact sub_lst_nil (sub_nil _) | refine sub_lst rfl ?_ | (refine sub_lst_eq rfl ?_ ?_; · first | rfl | (refine congrArg (Value.int .i64) ?_; dsimp only; omega)))
                 · repeat' (first | exact sub_refl _ | exact sub_strip _ _ | refine sub_s_cons rfl ?_ | refine sub_s_lst rfl ?_ | refine sub_s_strip rfl ?_)
                 · show _ < _; simp only; omega)
              | (refine N_again (i + 1, 0, a ++ [c], H2) (sub_end ?_ ?_) ⟨hb2, hp, by dsimp only; omega, by dsimp only; omega, by simp; omega, hn⟩ ?_
                 · repeat' (first | exact sub_lst_nil (sub_nil _) | refine sub_lst rfl ?_ | (refine sub_lst_eq rfl ?_ ?_; · first | rfl | (refine congrArg (Value.int .i64) ?_; dsimp only; omega)))
                 · repeat' (first | exact sub_refl _ | exact sub_strip _ _ | refine sub_s_cons rfl ?_ | refine sub_s_lst rfl ?_ | refine sub_s_strip rfl ?_)
                 · show _ < _; simp only; omega)
              | (refine N_again (i + 1, 2, a ++ [ofHex x y], H2) (sub_end ?_ ?_) ⟨hb2, hp, by dsimp only; omega, by dsimp only; omega, by simp; omega, hn⟩ ?_
                 · repeat' (first | exact sub_lst_nil (sub_nil _) | refine sub_lst rfl ?_ | (refine sub_lst_eq rfl ?_ ?_; · first | rfl | (refine congrArg (Value.int .i64) ?_; dsimp only; omega)))
                 · repeat' (first | exact sub_refl _ | exact sub_strip _ _ | refine sub_s_cons rfl ?_ | refine sub_s_lst rfl ?_ | refine sub_s_strip rfl ?_)
                 · show _ < _; simp only; omega))
         · try (exfalso; first | omega | (simp only [Bool.false_eq_true, reduceCtorEq] at hc2; done) | (refine absurd hc2 ?_; with_reducible assumption) | (refine absurd ?_ hc2; with_reducible assumption))
           all_goals (
            refine K_seq ?_
            refine K_region ?_
            refine W_move rfl rfl ?_
            first
              | (refine W_eql_t rfl rfl ?_ rfl ?_; (focus (omega)))
              | (refine W_eql_f rfl rfl ?_ rfl ?_; (focus (omega)))
              | (refine W_eql rfl rfl rfl ?_)
            refine W_assign rfl rfl ?_
            refine W_nil ?_
            refine N_then_k ?_
            first
              | refine K_cond_d rfl (fun hc3 => ?_) (fun hc3 => ?_)
              | refine K_cond_n rfl (fun hc3 => ?_) (fun hc3 => ?_)
              | refine K_cond_nb rfl (fun hc3 => ?_) (fun hc3 => ?_)
              | refine K_cond_t rfl (fun hc3 => ?_) (fun hc3 => ?_)
            · try (exfalso; first | omega | (simp only [Bool.false_eq_true, reduceCtorEq] at hc3; done) | (refine absurd hc3 ?_; with_reducible assumption) | (refine absurd ?_ hc3; with_reducible assumption))
              all_goals (
               refine K_seq ?_
               refine K_region ?_
               refine W_move rfl rfl ?_
               refine W_move rfl rfl ?_
               refine W_slice_sl Tryd.underlying9 rfl rfl ?_ ?_ rfl ?_
               (focus (first | omega | (simp; omega) | (simp only [List.length_drop, List.length_take, List.length_append]; omega)))
               (focus (first | omega | (simp; omega) | (simp only [List.length_drop, List.length_take, List.length_append]; omega)))
               refine W_pcall hp rfl ((triple_spec (s.drop i) (by simp; omega)).eq ht) rfl ?_
               clear hp; intro w hp
               refine W_move rfl rfl ?_
               refine W_extract rfl rfl rfl ?_
               refine W_extract rfl rfl rfl ?_
               refine W_assign rfl rfl ?_
               refine W_assign rfl rfl ?_
               refine W_nil ?_
               refine N_then_k ?_
               refine K_seq ?_
               refine K_seq ?_
               refine K_region ?_
               refine W_move rfl rfl ?_
               first
                 | (refine W_not_t rfl rfl ?_)
                 | (refine W_not_f rfl rfl ?_)
                 | (refine W_not rfl rfl ?_)
               refine W_nil ?_
               refine N_then_k ?_
               first
                 | refine K_cond_d rfl (fun hc4 => ?_) (fun hc4 => ?_)
                 | refine K_cond_n rfl (fun hc4 => ?_) (fun hc4 => ?_)
                 | refine K_cond_nb rfl (fun hc4 => ?_) (fun hc4 => ?_)
                 | refine K_cond_t rfl (fun hc4 => ?_) (fun hc4 => ?_)
               · try (exfalso; first | omega | (simp only [Bool.false_eq_true, reduceCtorEq] at hc4; done) | (refine absurd hc4 ?_; with_reducible assumption) | (refine absurd ?_ hc4; with_reducible assumption))
                 all_goals (
                  refine K_seq ?_
                  refine K_region ?_
                  refine W_move rfl rfl ?_
                  refine W_pcall hp rfl (fault_new 400 i) rfl ?_
                  clear hp; intro w hp
                  refine W_assign rfl rfl ?_
                  refine W_assign rfl rfl ?_
                  refine W_nil ?_
                  refine N_then_k ?_
                  refine K_ret ?_
                  refine N_then_ret ?_
                  refine N_block_ret ?_
                  refine N_then_ret ?_
                  refine N_block_ret ?_
                  refine N_then_ret ?_
                  refine N_then_ret ?_
                  refine N_block_ret ?_
                  refine N_then_ret ?_
                  refine N_done2 (.inr rfl) rfl rfl rfl ?_
                  refine ⟨_, rfl, ?_, by first | exact hp.nil | exact hp⟩
                  first
                    | (rw [decV_bad hn]; rfl)
                    | (rw [decV_ok (dec_end hinv (by omega))]))
               · try (exfalso; first | omega | (simp only [Bool.false_eq_true, reduceCtorEq] at hc4; done) | (refine absurd hc4 ?_; with_reducible assumption) | (refine absurd ?_ hc4; with_reducible assumption))
                 all_goals (
                  refine K_skip ?_
                  refine N_then_k ?_
                  refine K_region ?_
                  refine W_move rfl rfl ?_
                  refine W_assign rfl rfl ?_
                  refine W_assign rfl rfl ?_
                  refine W_nil ?_
                  refine N_block_normal ?_
                  refine N_then_k ?_
                  refine K_region ?_
                  refine W_move rfl rfl ?_
                  first
                    | (refine W_call rfl rfl rfl (CallV.static go20 (bwrite w0 b4 a (ofHex x y) (by omega) H [] w hb (by simpa using hp))) (fun u w2 hr => ?_))
                    | (refine W_call rfl rfl rfl (CallV.static go20 (bwrite w0 b4 a c (by omega) H [] w hb (by simpa using hp))) (fun u w2 hr => ?_))
                  obtain ⟨rfl, H2, hb2, hp2⟩ := hr
                  clear hp; revert hp2; generalize w2 = w; intro hp
                  try simp only [List.append_nil] at hp
                  refine W_nil ?_
                  refine N_block_normal ?_
                  refine N_then_k ?_
                  refine K_region ?_
                  first
                    | (refine W_add rfl rfl (wr_i64 ?_) rfl ?_; (focus (omega)))
                    | (refine W_add rfl rfl rfl rfl ?_)
                  refine W_move rfl rfl ?_
                  refine W_nil ?_
                  first
                    | (refine N_again (i + 1, k - 1, a, H) (sub_end ?_ ?_) ⟨hb, hp, by dsimp only; omega, by dsimp only; omega, by dsimp only; omega, by dsimp only; rw [show i + 1 + (k - 1) = i + k by omega]; exact hinv⟩ ?_
                       · repeat' (first | exact sub_lst_nil (sub_nil _) | refine sub_lst rfl ?_ | (refine sub_lst_eq rfl ?_ ?_; · first | rfl | (refine congrArg (Value.int .i64) ?_; dsimp only; omega)))
                       · repeat' (first | exact sub_refl _ | exact sub_strip _ _ | refine sub_s_cons rfl ?_ | refine sub_s_lst rfl ?_ | refine sub_s_strip rfl ?_)
                       · show _ < _; simp only; omega)
                    | (refine N_again (i + 1, 0, a ++ [c], H2) (sub_end ?_ ?_) ⟨hb2, hp, by dsimp only; omega, by dsimp only; omega, by simp; omega, hn⟩ ?_
                       · repeat' (first | exact sub_lst_nil (sub_nil _) | refine sub_lst rfl ?_ | (refine sub_lst_eq rfl ?_ ?_; · first | rfl | (refine congrArg (Value.int .i64) ?_; dsimp only; omega)))
                       · repeat' (first | exact sub_refl _ | exact sub_strip _ _ | refine sub_s_cons rfl ?_ | refine sub_s_lst rfl ?_ | refine sub_s_strip rfl ?_)
                       · show _ < _; simp only; omega)
                    | (refine N_again (i + 1, 2, a ++ [ofHex x y], H2) (sub_end ?_ ?_) ⟨hb2, hp, by dsimp only; omega, by dsimp only; omega, by simp; omega, hn⟩ ?_
                       · repeat' (first | exact sub_lst_nil (sub_nil _) | refine sub_lst rfl ?_ | (refine sub_lst_eq rfl ?_ ?_; · first | rfl | (refine congrArg (Value.int .i64) ?_; dsimp only; omega)))
                       · repeat' (first | exact sub_refl _ | exact sub_strip _ _ | refine sub_s_cons rfl ?_ | refine sub_s_lst rfl ?_ | refine sub_s_strip rfl ?_)
                       · show _ < _; simp only; omega)))
            · try (exfalso; first | omega | (simp only [Bool.false_eq_true, reduceCtorEq] at hc3; done) | (refine absurd hc3 ?_; with_reducible assumption) | (refine absurd ?_ hc3; with_reducible assumption))
              all_goals (
               refine K_skip ?_
               refine N_block_normal ?_
               refine N_then_k ?_
               refine K_region ?_
               refine W_move rfl rfl ?_
               first
                 | (refine W_call rfl rfl rfl (CallV.static go20 (bwrite w0 b4 a (ofHex x y) (by omega) H [] w hb (by simpa using hp))) (fun u w2 hr => ?_))
                 | (refine W_call rfl rfl rfl (CallV.static go20 (bwrite w0 b4 a c (by omega) H [] w hb (by simpa using hp))) (fun u w2 hr => ?_))
               obtain ⟨rfl, H2, hb2, hp2⟩ := hr
               clear hp; revert hp2; generalize w2 = w; intro hp
               try simp only [List.append_nil] at hp
               refine W_nil ?_
               refine N_block_normal ?_
               refine N_then_k ?_
               refine K_region ?_
               first
                 | (refine W_add rfl rfl (wr_i64 ?_) rfl ?_; (focus (omega)))
                 | (refine W_add rfl rfl rfl rfl ?_)
               refine W_move rfl rfl ?_
               refine W_nil ?_
               first
                 | (refine N_again (i + 1, k - 1, a, H) (sub_end ?_ ?_) ⟨hb, hp, by dsimp only; omega, by dsimp only; omega, by dsimp only; omega, by dsimp only; rw [show i + 1 + (k - 1) = i + k by omega]; exact hinv⟩ ?_
                    · repeat' (first | exact sub_lst_nil (sub_nil _) | refine sub_lst rfl ?_ | (refine sub_lst_eq rfl ?_ ?_; · first | rfl | (refine congrArg (Value.int .i64) ?_; dsimp only; omega)))
                    · repeat' (first | exact sub_refl _ | exact sub_strip _ _ | refine sub_s_cons rfl ?_ | refine sub_s_lst rfl ?_ | refine sub_s_strip rfl ?_)
                    · show _ < _; simp only; omega)
                 | (refine N_again (i + 1, 0, a ++ [c], H2) (sub_end ?_ ?_) ⟨hb2, hp, by dsimp only; omega, by dsimp only; omega, by simp; omega, hn⟩ ?_
                    · repeat' (first | exact sub_lst_nil (sub_nil _) | refine sub_lst rfl ?_ | (refine sub_lst_eq rfl ?_ ?_; · first | rfl | (refine congrArg (Value.int .i64) ?_; dsimp only; omega)))
                    · repeat' (first | exact sub_refl _ | exact sub_strip _ _ | refine sub_s_cons rfl ?_ | refine sub_s_lst rfl ?_ | refine sub_s_strip rfl ?_)
                    · show _ < _; simp only; omega)
                 | (refine N_again (i + 1, 2, a ++ [ofHex x y], H2) (sub_end ?_ ?_) ⟨hb2, hp, by dsimp only; omega, by dsimp only; omega, by simp; omega, hn⟩ ?_
                    · repeat' (first | exact sub_lst_nil (sub_nil _) | refine sub_lst rfl ?_ | (refine sub_lst_eq rfl ?_ ?_; · first | rfl | (refine congrArg (Value.int .i64) ?_; dsimp only; omega)))
                    · repeat' (first | exact sub_refl _ | exact sub_strip _ _ | refine sub_s_cons rfl ?_ | refine sub_s_lst rfl ?_ | refine sub_s_strip rfl ?_)
                    · show _ < _; simp only; omega)))))
     · try (exfalso; first | omega | (simp only [Bool.false_eq_true, reduceCtorEq] at hc1; done) | (refine absurd hc1 ?_; with_reducible assumption) | (refine absurd ?_ hc1; with_reducible assumption))
       all_goals (
        refine K_exit ?_
        refine N_then_exit ?_
        refine N_then_exit ?_
        refine N_block_exit ?_
        refine N_then_k ?_
        refine K_seq ?_
        refine K_region ?_
        refine W_call rfl rfl rfl (CallV.static go21 (bstring w0 b4 a H [] w hb (by simpa using hp))) (fun u w2 hr => ?_)
        obtain ⟨rfl, hp2⟩ := hr
        clear hp; revert hp2; generalize w2 = w; intro hp
        refine W_assign rfl rfl ?_
        refine W_assign rfl rfl ?_
        refine W_nil ?_
        refine N_then_k ?_
        refine K_ret ?_
        refine N_done2 (.inr rfl) rfl rfl rfl ?_
        refine ⟨_, rfl, ?_, by first | exact hp.nil | exact hp⟩
        first
          | (rw [decV_bad hn]; rfl)
          | (rw [decV_ok (dec_end hinv (by omega))])))

theorem digit_spec2 (n : Nat) (h : n < 16) : PureF Tryd.prog 27 [.int .u8 (n : Int)] (.int .u8 ((digU n).toNat : Int)) := by
  refine PureF.intro go27 Tryd.func27 rfl rfl fun w0 hp => ?_
  refine K_seq ?_
  refine K_region ?_
  refine W_assign rfl rfl ?_
  refine W_nil ?_
  refine N_then_k ?_
  refine K_seq ?_
  refine K_region ?_
  refine W_move rfl rfl ?_
  refine W_index_s Tryd.underlying9 (a := [48, 49, 50, 51, 52, 53, 54, 55, 56, 57, 65, 66, 67, 68, 69, 70]) (b := digU n) rfl rfl (by omega) (idx_getD (by simpa using h)) rfl ?_
  refine W_assign rfl rfl ?_
  refine W_nil ?_
  refine N_then_k ?_
  refine K_ret ?_
  refine N_done1 (.inr rfl) rfl rfl ?_
  exact ⟨_, rfl, rfl, hp.nil⟩

theorem encode_spec (s : List UInt8) (hl : s.length ≤ 1000000) : PureF Tryd.prog 14 [.string ⟨s.toArray⟩] (.string ⟨(enc s).toArray⟩) := by
  refine PureF.intro go14 Tryd.func14 rfl rfl fun w0 hp => ?_
  refine K_seq ?_
  refine K_region ?_
  refine W_assign rfl rfl ?_
  refine W_nil ?_
  refine N_then_k ?_
  refine K_seq ?_
  refine K_region ?_
  refine W_assign rfl rfl ?_
  refine W_nil ?_
  refine N_then_k ?_
  refine K_seq ?_
  refine K_seq ?_
  refine K_region ?_
  refine W_move rfl rfl ?_
  refine W_len_s Tryd.underlying9 rfl rfl ?_
  refine W_move rfl rfl ?_
  refine W_nil ?_
  refine N_then_k ?_
  refine K_block ?_
  refine K_loop (σ := Nat × Value × Heap) [3, 4, 5, 8, 9, 10, 11, 12, 13, 14, 15, 16, 17, 18, 19, 20, 21, 22, 23, 24, 25, 26, 27, 28, 29]
      (fun q => [(8, .int .i64 q.1), (3, q.2.1)])
      (fun q w => OSb 5 q.2.1 (enc (s.take q.1)) q.2.2 ∧ Hp w0 [] q.2.2 w ∧ q.1 ≤ s.length)
      (fun q => s.length - q.1) ((0, .slice none 0 0, [])) ?_ ?_ ?_
  · repeat' (first | exact sub_lst_nil (sub_nil _) | refine sub_lst rfl ?_ | (refine sub_lst_eq rfl ?_ ?_; · first | rfl | (simp; done) | (congr 1; omega)))
  · exact ⟨OSb.nil, hp, Nat.zero_le _⟩
  · intro ⟨k, v, Hs⟩ w hJ
    clear hp
    obtain ⟨hos, hp, hle⟩ := hJ
    simp only at hos hp hle
    obtain ⟨Av, cv, rfl⟩ := hos.form
    rcases Nat.lt_or_ge k (s.length) with hlt | hge
    all_goals (
     refine K_seq ?_
     refine K_region ?_
     first
       | (refine W_lss_t rfl rfl ?_ rfl ?_; (focus (omega)))
       | (refine W_lss_f rfl rfl ?_ rfl ?_; (focus (omega)))
       | (refine W_lss rfl rfl rfl ?_)
     refine W_nil ?_
     refine N_then_k ?_
     refine K_seq ?_
     first
       | refine K_cond_d rfl (fun hc1 => ?_) (fun hc1 => ?_)
       | refine K_cond_n rfl (fun hc1 => ?_) (fun hc1 => ?_)
       | refine K_cond_nb rfl (fun hc1 => ?_) (fun hc1 => ?_)
       | refine K_cond_t rfl (fun hc1 => ?_) (fun hc1 => ?_)
     · try (exfalso; first | omega | (simp only [Bool.false_eq_true, reduceCtorEq] at hc1; done) | (refine absurd hc1 ?_; with_reducible assumption) | (refine absurd ?_ hc1; with_reducible assumption))
       all_goals (
        refine K_skip ?_
        refine N_then_k ?_
        refine K_seq ?_
        refine K_block ?_
        refine K_seq ?_
        refine K_region ?_
        refine W_move rfl rfl ?_
        refine W_assign rfl rfl ?_
        refine W_nil ?_
        refine N_then_k ?_
        refine K_seq ?_
        refine K_region ?_
        obtain ⟨c, hc⟩ : ∃ c, s[k]? = some c := ⟨_, List.getElem?_eq_getElem hlt⟩
        have hu := c.toNat_lt
        have hel := enc_cut s k
        refine W_move rfl rfl ?_
        refine W_move rfl rfl ?_
        refine W_index_s Tryd.underlying9 rfl rfl ?_ (by first | with_reducible assumption | assumption | exact rfl | exact idx_getD (by first | omega | (simp; omega))) rfl ?_
        (focus (omega))
        refine W_assign rfl rfl ?_
        refine W_nil ?_
        refine N_then_k ?_
        refine K_seq ?_
        refine K_region ?_
        refine W_move rfl rfl ?_
        refine W_pcall hp rfl (unreserved_spec c) rfl ?_
        clear hp; intro w hp
        refine W_nil ?_
        refine N_then_k ?_
        first
          | refine K_cond_d rfl (fun hc2 => ?_) (fun hc2 => ?_)
          | refine K_cond_n rfl (fun hc2 => ?_) (fun hc2 => ?_)
          | refine K_cond_nb rfl (fun hc2 => ?_) (fun hc2 => ?_)
          | refine K_cond_t rfl (fun hc2 => ?_) (fun hc2 => ?_)
        · try (exfalso; first | omega | (simp only [Bool.false_eq_true, reduceCtorEq] at hc2; done) | (refine absurd hc2 ?_; with_reducible assumption) | (refine absurd ?_ hc2; with_reducible assumption))
          all_goals (
           refine K_region ?_
           refine W_move rfl rfl ?_
           refine W_move rfl rfl ?_
           refine W_bslice1 hp Tryd.underlying37 sz5 zv5 rfl  rfl  (fun v0 => [v0]) rfl rfl rfl ?_
           clear hp; intro b18 w hp
           try simp only [List.append_nil] at hp
           rw [← List.append_nil Hs] at hp
           refine W_append_sl (A := [_]) (B := []) _ rfl hp rfl Tryd.underlying37 sz5 pb5 zv5 rfl rfl rfl rfl hos (Rd.own hp (by first | exact List.mem_cons_self | exact .tail _ (.head _) | exact .tail _ (.tail _ (.head _)) | exact .tail _ (.tail _ (.tail _ (.head _))) | exact .tail _ (.tail _ (.tail _ (.tail _ (.head _)))) | exact .tail _ (.tail _ (.tail _ (.tail _ (.tail _ (.head _)))))) (List.prefix_refl _)) ?_ ?_ ?_ ?_ rfl ?_
           · rfl
           · simp [Value.oneCell']
           · (simp only [maxLen]; omega)
           · omega
           clear hp; intro va19 Hs w hos hp
           replace hos := OSb.snoc (c := c) hos
           obtain ⟨Aa19, ca19, rfl⟩ := hos.form
           refine W_assign rfl rfl ?_
           refine W_nil ?_
           refine N_block_normal ?_
           refine N_then_k ?_
           refine K_region ?_
           first
             | (refine W_add rfl rfl (wr_i64 ?_) rfl ?_; (focus (omega)))
             | (refine W_add rfl rfl rfl rfl ?_)
           refine W_move rfl rfl ?_
           refine W_nil ?_
           first
             | (refine N_again (k + 1, _, Hs) (sub_end ?_ ?_) ⟨by show OSb _ _ (enc (s.take (k + 1))) _; rw [enc_take hc]; unfold encC; rw [if_pos (by assumption)]; exact hos, by simpa using hp.drop (List.sublist_cons_self _ _), hlt⟩ ?_
                · repeat' (first | exact sub_lst_nil (sub_nil _) | refine sub_lst rfl ?_ | (refine sub_lst_eq rfl ?_ ?_; · first | rfl | (simp; done) | (congr 1; omega)))
                · repeat' (first | exact sub_refl _ | exact sub_strip _ _ | refine sub_s_cons rfl ?_ | refine sub_s_lst rfl ?_ | refine sub_s_strip rfl ?_)
                · show _ < _; simp only; omega)
             | (refine N_again (k + 1, _, Hs) (sub_end ?_ ?_) ⟨by show OSb _ _ (enc (s.take (k + 1))) _; rw [enc_take hc]; unfold encC; rw [if_neg (by assumption)]; exact hos, by simpa using hp.drop (List.sublist_cons_self _ _), hlt⟩ ?_
                · repeat' (first | exact sub_lst_nil (sub_nil _) | refine sub_lst rfl ?_ | (refine sub_lst_eq rfl ?_ ?_; · first | rfl | (simp; done) | (congr 1; omega)))
                · repeat' (first | exact sub_refl _ | exact sub_strip _ _ | refine sub_s_cons rfl ?_ | refine sub_s_lst rfl ?_ | refine sub_s_strip rfl ?_)
                · show _ < _; simp only; omega))
        · try (exfalso; first | omega | (simp only [Bool.false_eq_true, reduceCtorEq] at hc2; done) | (refine absurd hc2 ?_; with_reducible assumption) | (refine absurd ?_ hc2; with_reducible assumption))
          all_goals (
           refine K_region ?_
           refine W_move rfl rfl ?_
           refine W_move rfl rfl ?_
           first
             | (refine W_quo rfl rfl ?_ (quo_nn ?_ (wr_u8 ?_)) rfl ?_; (focus (omega)); (focus (omega)); (focus (omega)))
             | (refine W_quo rfl rfl ?_ rfl rfl ?_; (focus (omega)))
           skip
           refine W_pcall hp rfl ((digit_spec2 (c.toNat / 16) (by omega))) rfl ?_
           clear hp; intro w hp
           refine W_move rfl rfl ?_
           first
             | (refine W_rem rfl rfl ?_ (rem_nn ?_) rfl ?_; (focus (omega)); (focus (omega)))
             | (refine W_rem rfl rfl ?_ rfl rfl ?_; (focus (omega)))
           refine W_pcall hp rfl ((digit_spec2 (c.toNat % 16) (by omega))) rfl ?_
           clear hp; intro w hp
           refine W_bslice3 hp Tryd.underlying37 sz5 zv5 rfl rfl rfl  rfl rfl rfl  (fun v0 v1 v2 => [v0, v1, v2]) rfl rfl rfl ?_
           clear hp; intro b27 w hp
           try simp only [List.append_nil] at hp
           rw [← List.append_nil Hs] at hp
           refine W_append_sl (A := [_]) (B := []) _ rfl hp rfl Tryd.underlying37 sz5 pb5 zv5 rfl rfl rfl rfl hos (Rd.own hp (by first | exact List.mem_cons_self | exact .tail _ (.head _) | exact .tail _ (.tail _ (.head _)) | exact .tail _ (.tail _ (.tail _ (.head _))) | exact .tail _ (.tail _ (.tail _ (.tail _ (.head _)))) | exact .tail _ (.tail _ (.tail _ (.tail _ (.tail _ (.head _)))))) (List.prefix_refl _)) ?_ ?_ ?_ ?_ rfl ?_
           · rfl
           · simp [Value.oneCell']
           · (simp only [maxLen]; omega)
           · omega
           clear hp; intro va28 Hs w hos hp
           replace hos := OSb.app (b := [37, digU (c.toNat / 16), digU (c.toNat % 16)]) hos
           obtain ⟨Aa28, ca28, rfl⟩ := hos.form
           refine W_assign rfl rfl ?_
           refine W_nil ?_
           refine N_block_normal ?_
           refine N_then_k ?_
           refine K_region ?_
           first
             | (refine W_add rfl rfl (wr_i64 ?_) rfl ?_; (focus (omega)))
             | (refine W_add rfl rfl rfl rfl ?_)
           refine W_move rfl rfl ?_
           refine W_nil ?_
           first
             | (refine N_again (k + 1, _, Hs) (sub_end ?_ ?_) ⟨by show OSb _ _ (enc (s.take (k + 1))) _; rw [enc_take hc]; unfold encC; rw [if_pos (by assumption)]; exact hos, by simpa using hp.drop (List.sublist_cons_self _ _), hlt⟩ ?_
                · repeat' (first | exact sub_lst_nil (sub_nil _) | refine sub_lst rfl ?_ | (refine sub_lst_eq rfl ?_ ?_; · first | rfl | (simp; done) | (congr 1; omega)))
                · repeat' (first | exact sub_refl _ | exact sub_strip _ _ | refine sub_s_cons rfl ?_ | refine sub_s_lst rfl ?_ | refine sub_s_strip rfl ?_)
                · show _ < _; simp only; omega)
             | (refine N_again (k + 1, _, Hs) (sub_end ?_ ?_) ⟨by show OSb _ _ (enc (s.take (k + 1))) _; rw [enc_take hc]; unfold encC; rw [if_neg (by assumption)]; exact hos, by simpa using hp.drop (List.sublist_cons_self _ _), hlt⟩ ?_
                · repeat' (first | exact sub_lst_nil (sub_nil _) | refine sub_lst rfl ?_ | (refine sub_lst_eq rfl ?_ ?_; · first | rfl | (simp; done) | (congr 1; omega)))
                · repeat' (first | exact sub_refl _ | exact sub_strip _ _ | refine sub_s_cons rfl ?_ | refine sub_s_lst rfl ?_ | refine sub_s_strip rfl ?_)
                · show _ < _; simp only; omega)))
     · try (exfalso; first | omega | (simp only [Bool.false_eq_true, reduceCtorEq] at hc1; done) | (refine absurd hc1 ?_; with_reducible assumption) | (refine absurd ?_ hc1; with_reducible assumption))
       all_goals (
        refine K_exit ?_
        refine N_then_exit ?_
        refine N_then_exit ?_
        refine N_block_exit ?_
        refine N_then_k ?_
        refine K_seq ?_
        refine K_region ?_
        refine W_move rfl rfl ?_
        refine W_conv_bs (a := enc (s.take k)) Tryd.underlying37 Tryd.underlying5 Tryd.underlying9 rfl (hos.rd (A := []) (B := []) (by simpa using hp)) rfl rfl ?_
        refine W_assign rfl rfl ?_
        refine W_nil ?_
        refine N_then_k ?_
        refine K_ret ?_
        refine N_done1 (.inr rfl) rfl rfl ?_
        refine ⟨_, rfl, ?_, hp.nil⟩
        rw [List.take_of_length_le hge]))

end Go.Proofs.YtbccjajnjndlbaaDoor
