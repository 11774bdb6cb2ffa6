/-
  The reference implementation of package base64, walked: bits, numbers, values.
-/
import Derived.Test.YtbdmaiipohfnaaaDoorB64P
namespace Go.Proofs.YtbdmaiipohfnaaaDoor
open Go.Sx Go.RowKit
set_option linter.unusedVariables false
set_option linter.unusedSimpArgs false
set_option maxRecDepth 100000

theorem bits_spec (w0 : World) (n many : Nat) (hn : n < 1000) (hm : many ≤ 8) : RetB Tryd.prog 42 [.int .i64 (n : Int), .int .i64 (many : Int)] (fun v G => OSi 3 v (bitsN many n) G) w0 := by
  refine RetB.intro go42 Tryd.func42 rfl rfl fun hp => ?_
  refine (fun (hk : ∀ w, Hp w0 [] [] w → K _ _ _ _ _ w) => hk w0 hp) fun w hp => ?_
  refine K_seq ?_
  refine K_region ?_
  refine W_assign rfl rfl ?_
  refine W_nil ?_
  refine N_then_k ?_
  refine K_seq ?_
  refine K_region ?_
  refine W_assign rfl rfl ?_
  refine W_nil ?_
  refine N_then_k ?_
  refine K_seq ?_
  refine K_seq ?_
  refine K_region ?_
  refine W_move rfl rfl ?_
  first
    | (refine W_sub rfl rfl (wr_i64 ?_) rfl ?_; (focus (omega)))
    | (refine W_sub rfl rfl rfl rfl ?_)
  refine W_assign rfl rfl ?_
  refine W_nil ?_
  refine N_then_k ?_
  refine K_block ?_
  refine K_loop (σ := Nat × Value × Heap) [5, 6, 9, 10, 11, 12, 13, 14, 15, 16, 17, 18, 19]
      (fun q => [(6, .int .i64 ((many : Int) - 1 - q.1)), (5, q.2.1)])
      (fun q w => OSi 3 q.2.1 ((bitsN many n).take q.1) q.2.2 ∧ Hp w0 [] q.2.2 w ∧ q.1 ≤ many)
      (fun q => many - q.1) ((0, .slice none 0 0, [])) ?_ ?_ ?_
  · repeat' (first | exact sub_lst_nil (sub_nil _) | refine sub_lst rfl ?_ | (refine sub_lst_eq rfl ?_ ?_; · first | rfl | (refine congrArg (Value.int .i64) ?_; show _ = (many : Int) - 1 - ((0 : Nat) : Int); omega) | (simp; done) | (congr 1; omega)))
  · exact ⟨OSi.nil, hp, Nat.zero_le _⟩
  · intro ⟨j, v, Hs⟩ w hJ
    clear hp
    obtain ⟨hos, hp, hle⟩ := hJ
    simp only at hos hp hle
    change K _ _ _ _ (.lst ([(6, .int .i64 ((many : Int) - 1 - j)), (5, v)]) _) _
    obtain ⟨Av, cv, rfl⟩ := hos.form
    rcases Nat.lt_or_ge j many with hlt | hge
    all_goals (
     refine K_seq ?_
     refine K_seq ?_
     refine K_region ?_
     refine W_move rfl rfl ?_
     first
       | (refine W_geq_t rfl rfl ?_ rfl ?_; (focus (omega)))
       | (refine W_geq_f rfl rfl ?_ rfl ?_; (focus (omega)))
       | (refine W_geq rfl rfl rfl ?_)
     refine W_nil ?_
     refine N_then_k ?_
     first
       | refine K_cond_d rfl (fun hc1 => ?_) (fun hc1 => ?_)
       | refine K_cond_n rfl (fun hc1 => ?_) (fun hc1 => ?_)
       | refine K_cond_nb rfl (fun hc1 => ?_) (fun hc1 => ?_)
       | refine K_cond_t rfl (fun hc1 => ?_) (fun hc1 => ?_)
     · try (exfalso; first | omega | (simp only [Bool.false_eq_true, reduceCtorEq] at hc1; done) | (refine absurd hc1 ?_; with_reducible assumption) | (refine absurd ?_ hc1; with_reducible assumption))
       all_goals (
        refine K_skip ?_
        refine N_then_k ?_
        refine K_seq ?_
        refine K_block ?_
        refine K_region ?_
        have hbt := bitsN_at (k := many) (n := n) hlt
        have hnd := Nat.div_le_self n (2 ^ (many - 1 - j))
        have htl : ((bitsN many n).take j).length ≤ 8 := by simp; omega
        refine W_move rfl rfl ?_
        refine W_move rfl rfl ?_
        refine W_move rfl rfl ?_
        refine W_shr (r := ((n / 2 ^ (many - 1 - j) : Nat) : Int)) rfl rfl (by omega) (shr_n (by show min _ 64 = _; omega)) rfl ?_
        refine W_band (r := ((n / 2 ^ (many - 1 - j) % 2 ^ 1 : Nat) : Int)) rfl rfl (band64 (m := 1) rfl rfl (by omega) (by decide)) rfl ?_
        refine W_bslice1 hp Tryd.underlying85 sz3 zv3 rfl  rfl  (fun v0 => [v0]) rfl rfl rfl ?_
        clear hp; intro b18 w hp
        try simp only [List.append_nil] at hp
        rw [← List.append_nil Hs] at hp
        refine W_append_sl (A := [_]) (B := []) _ rfl hp rfl Tryd.underlying85 sz3 pb3 zv3 rfl rfl rfl rfl hos (Rd.own hp (by first | exact List.mem_cons_self | exact .tail _ (.head _) | exact .tail _ (.tail _ (.head _)) | exact .tail _ (.tail _ (.tail _ (.head _))) | exact .tail _ (.tail _ (.tail _ (.tail _ (.head _)))) | exact .tail _ (.tail _ (.tail _ (.tail _ (.tail _ (.head _))))) | exact List.mem_append_right _ (.head _) | exact List.mem_append_right _ (.tail _ (.head _)) | exact List.mem_append_right _ (.tail _ (.tail _ (.head _))) | exact .tail _ (List.mem_append_right _ (.head _)) | exact .tail _ (List.mem_append_right _ (.tail _ (.head _))) | assumption | (repeat (first | exact List.mem_cons_self | apply List.mem_append_right | apply List.mem_cons_of_mem))) (List.prefix_refl _)) ?_ ?_ ?_ ?_ rfl ?_
        · rfl
        · first | (simp [Value.oneCell']; done) | (simp [Value.oneCell', strV]; done)
        · (simp only [maxLen]; omega)
        · omega
        clear hp; intro va19 Hs w hos hp
        replace hos := OSi.app (b := [n / 2 ^ (many - 1 - j) % 2 ^ 1]) rfl rfl hos
        obtain ⟨Aa19, ca19, rfl⟩ := hos.form
        refine W_assign rfl rfl ?_
        refine W_nil ?_
        refine N_block_normal ?_
        refine N_then_k ?_
        refine K_region ?_
        refine W_move rfl rfl ?_
        first
          | (refine W_sub rfl rfl (wr_i64 ?_) rfl ?_; (focus (omega)))
          | (refine W_sub rfl rfl rfl rfl ?_)
        refine W_assign rfl rfl ?_
        refine W_nil ?_
        refine N_again (j + 1, _, Hs) (sub_end ?_ ?_) ⟨by show OSi _ _ ((bitsN many n).take (j + 1)) _; rw [List.take_add_one, hbt]; exact hos, by simpa using hp.drop (List.sublist_cons_self _ _), hlt⟩ ?_
        · repeat' (first | exact sub_lst_nil (sub_nil _) | refine sub_lst rfl ?_ | (refine sub_lst_eq rfl ?_ ?_; · (refine congrArg (Value.int .i64) ?_; dsimp only; omega)))
        · repeat' (first | exact sub_refl _ | exact sub_strip _ _ | refine sub_s_cons rfl ?_ | refine sub_s_lst rfl ?_ | refine sub_s_strip rfl ?_)
        · show _ < _; simp only; omega)
     · try (exfalso; first | omega | (simp only [Bool.false_eq_true, reduceCtorEq] at hc1; done) | (refine absurd hc1 ?_; with_reducible assumption) | (refine absurd ?_ hc1; with_reducible assumption))
       all_goals (
        refine K_exit ?_
        refine N_then_exit ?_
        refine N_then_exit ?_
        refine N_block_exit ?_
        refine N_then_k ?_
        refine K_seq ?_
        refine K_region ?_
        refine W_move rfl rfl ?_
        refine W_assign rfl rfl ?_
        refine W_nil ?_
        refine N_then_k ?_
        refine K_ret ?_
        refine N_done1 (.inr rfl) rfl rfl ?_
        rw [List.take_of_length_le (by rw [bitsN_length]; omega)] at hos
        exact ⟨_, rfl, Hs, hp, by first | exact hos | (rw [List.take_of_length_le (by rw [bitsN_length]; omega)]; exact hos)⟩))

theorem number_spec (w0 : World) (l : List Nat) (A : Option Addr) (m c : Nat) (hm : m = l.length) (hr : Rd w0 (.slice A m c) m (intsV l)) (hl : l.length ≤ 8) (hb : ∀ b ∈ l, b < 2) : PureAt Tryd.prog 43 [.slice A m c] (.int .i64 (numL l : Int)) w0 := by
  subst hm
  refine PureAt.intro go43 Tryd.func43 rfl rfl fun hp => ?_
  refine (fun (hk : ∀ w, Hp w0 [] [] w → K _ _ _ _ _ w) => hk w0 hp) fun w hp => ?_
  refine K_seq ?_
  refine K_region ?_
  refine W_assign rfl rfl ?_
  refine W_nil ?_
  refine N_then_k ?_
  refine K_seq ?_
  refine K_region ?_
  refine W_assign rfl rfl ?_
  refine W_nil ?_
  refine N_then_k ?_
  refine K_seq ?_
  refine K_seq ?_
  refine K_region ?_
  refine W_assign rfl rfl ?_
  refine W_nil ?_
  refine N_then_k ?_
  refine K_block ?_
  refine K_loop (σ := Nat) [3, 4, 5, 6, 7, 8, 9, 10, 11, 12, 13, 14, 15, 16, 17]
      (fun k => [(4, .int .i64 k), (3, .int .i64 (numL (l.take k) : Int))])
      (fun k w => Hp w0 [] [] w ∧ k ≤ l.length)
      (fun k => l.length - k) (0) ?_ ?_ ?_
  · repeat' (first | exact sub_lst_nil (sub_nil _) | refine sub_lst rfl ?_ | (refine sub_lst_eq rfl ?_ ?_; · first | rfl | (simp; done) | (congr 1; omega)))
  · exact ⟨hp, Nat.zero_le _⟩
  · intro k w hJ
    clear hp
    obtain ⟨hp, hle⟩ := hJ
    rcases Nat.lt_or_ge k (l.length) with hlt | hge
    all_goals (
     refine K_seq ?_
     refine K_seq ?_
     refine K_region ?_
     refine W_move rfl rfl ?_
     refine W_move rfl rfl ?_
     refine W_len_sl Tryd.underlying85 rfl rfl ?_
     first
       | (refine W_lss_t rfl rfl ?_ rfl ?_; (focus (omega)))
       | (refine W_lss_f rfl rfl ?_ rfl ?_; (focus (omega)))
       | (refine W_lss rfl rfl rfl ?_)
     refine W_nil ?_
     refine N_then_k ?_
     first
       | refine K_cond_d rfl (fun hc1 => ?_) (fun hc1 => ?_)
       | refine K_cond_n rfl (fun hc1 => ?_) (fun hc1 => ?_)
       | refine K_cond_nb rfl (fun hc1 => ?_) (fun hc1 => ?_)
       | refine K_cond_t rfl (fun hc1 => ?_) (fun hc1 => ?_)
     · try (exfalso; first | omega | (simp only [Bool.false_eq_true, reduceCtorEq] at hc1; done) | (refine absurd hc1 ?_; with_reducible assumption) | (refine absurd ?_ hc1; with_reducible assumption))
       all_goals (
        refine K_skip ?_
        refine N_then_k ?_
        refine K_seq ?_
        refine K_block ?_
        refine K_region ?_
        obtain ⟨n, hc⟩ : ∃ n, l[k]? = some n := ⟨_, List.getElem?_eq_getElem hlt⟩
        have hb1 := hb n (List.mem_of_getElem? hc)
        have hnl := numL_lt (l := l.take k) (fun x hx => hb x (List.mem_of_mem_take hx))
        have hpw : 2 ^ (l.take k).length ≤ 2 ^ 8 := Nat.pow_le_pow_right (by decide) (by simp; omega)
        obtain ⟨bb, oo, rfl⟩ := hr.some (by intro e; have := congrArg List.length e; simp [intsV] at this; subst this; simp at hlt)
        have hcc := hr.cell (intsV_at hc)
        refine W_move rfl rfl ?_
        first
          | (refine W_mul rfl rfl (wr_i64 ?_) rfl ?_; (focus (omega)))
          | (refine W_mul rfl rfl rfl rfl ?_)
        refine W_move rfl rfl ?_
        refine W_move rfl rfl ?_
        refine W_indexAddr_sl Tryd.underlying85 sz3 rfl rfl ?_ ?_ rfl ?_
        (focus (omega))
        (focus (first | omega | (simp; done) | (simp; omega)))
        refine W_load_s Tryd.underlying3 rfl rfl (by exact hp.cell_old0 (by simpa using hcc)) rfl ?_
        first
          | (refine W_add rfl rfl (wr_i64 ?_) rfl ?_; (focus (omega)))
          | (refine W_add rfl rfl rfl rfl ?_)
        refine W_assign rfl rfl ?_
        refine W_nil ?_
        refine N_block_normal ?_
        refine N_then_k ?_
        refine K_region ?_
        refine W_move rfl rfl ?_
        first
          | (refine W_add rfl rfl (wr_i64 ?_) rfl ?_; (focus (omega)))
          | (refine W_add rfl rfl rfl rfl ?_)
        refine W_assign rfl rfl ?_
        refine W_nil ?_
        refine N_again (k + 1) (sub_end ?_ ?_) ?_ ?_
        · repeat' (first | exact sub_lst_nil (sub_nil _) | refine sub_lst rfl ?_ | (refine sub_lst_eq rfl ?_ ?_; · first | rfl | (refine congrArg (Value.int .i64) ?_; rw [num_of_take hc]; push_cast; rfl) | (simp; done) | (congr 1; omega)))
        · repeat' (first | exact sub_refl _ | exact sub_strip _ _ | refine sub_s_cons rfl ?_ | refine sub_s_lst rfl ?_ | refine sub_s_strip rfl ?_)
        · refine ⟨hp, hlt⟩
        · omega)
     · try (exfalso; first | omega | (simp only [Bool.false_eq_true, reduceCtorEq] at hc1; done) | (refine absurd hc1 ?_; with_reducible assumption) | (refine absurd ?_ hc1; with_reducible assumption))
       all_goals (
        refine K_exit ?_
        refine N_then_exit ?_
        refine N_then_exit ?_
        refine N_block_exit ?_
        refine N_then_k ?_
        refine K_seq ?_
        refine K_region ?_
        refine W_move rfl rfl ?_
        refine W_assign rfl rfl ?_
        refine W_nil ?_
        refine N_then_k ?_
        refine K_ret ?_
        refine N_done1 (.inr rfl) rfl rfl ?_
        refine ⟨_, rfl, ?_, hp.nil⟩
        rw [List.take_of_length_le hge]))

theorem digits_spec  : PureF Tryd.prog 47 [] (.string ⟨D64.toArray⟩) := by
  refine PureF.intro go47 Tryd.func47 rfl rfl fun w0 hp => ?_
  refine K_seq ?_
  refine K_region ?_
  refine W_assign rfl rfl ?_
  refine W_nil ?_
  refine N_then_k ?_
  refine K_seq ?_
  refine K_region ?_
  refine W_assign rfl rfl ?_
  refine W_nil ?_
  refine N_then_k ?_
  refine K_ret ?_
  refine N_done1 (.inr rfl) rfl rfl ?_
  exact ⟨_, rfl, rfl, hp.nil⟩

theorem value_spec (c : UInt8) : PureF Tryd.prog 41 [.int .u8 (c.toNat : Int)] (.int .i64 (v64 c)) := by
  refine PureF.intro go41 Tryd.func41 rfl rfl fun w0 hp => ?_
  refine K_seq ?_
  refine K_region ?_
  refine W_assign rfl rfl ?_
  refine W_nil ?_
  refine N_then_k ?_
  refine K_seq ?_
  refine K_seq ?_
  refine K_region ?_
  refine W_assign rfl rfl ?_
  refine W_nil ?_
  refine N_then_k ?_
  refine K_block ?_
  refine K_loop (σ := Nat) [2, 3, 4, 5, 6, 7, 8, 9, 10, 11, 12, 13]
      (fun k => [(3, .int .i64 k)])
      (fun k w => Hp w0 [] [] w ∧ k ≤ 64 ∧ ∀ j, j < k → dg j ≠ c)
      (fun k => 64 - k) (0) ?_ ?_ ?_
  · repeat' (first | exact sub_lst_nil (sub_nil _) | refine sub_lst rfl ?_ | (refine sub_lst_eq rfl ?_ ?_; · first | rfl | (simp; done) | (congr 1; omega)))
  · exact ⟨hp, Nat.zero_le _, by omega⟩
  · intro k w hJ
    clear hp
    obtain ⟨hp, hle, ha⟩ := hJ
    rcases Nat.lt_or_ge k (64) with hlt | hge
    all_goals (
     refine K_seq ?_
     refine K_seq ?_
     refine K_region ?_
     refine W_move rfl rfl ?_
     first
       | (refine W_lss_t rfl rfl ?_ rfl ?_; (focus (omega)))
       | (refine W_lss_f rfl rfl ?_ rfl ?_; (focus (omega)))
       | (refine W_lss rfl rfl rfl ?_)
     refine W_nil ?_
     refine N_then_k ?_
     first
       | refine K_cond_d rfl (fun hc1 => ?_) (fun hc1 => ?_)
       | refine K_cond_n rfl (fun hc1 => ?_) (fun hc1 => ?_)
       | refine K_cond_nb rfl (fun hc1 => ?_) (fun hc1 => ?_)
       | refine K_cond_t rfl (fun hc1 => ?_) (fun hc1 => ?_)
     · try (exfalso; first | omega | (simp only [Bool.false_eq_true, reduceCtorEq] at hc1; done) | (refine absurd hc1 ?_; with_reducible assumption) | (refine absurd ?_ hc1; with_reducible assumption))
       all_goals (
        refine K_skip ?_
        refine N_then_k ?_
        refine K_seq ?_
        refine K_block ?_
        refine K_seq ?_
        refine K_region ?_
        refine W_pcall hp rfl (digits_spec) rfl ?_
        clear hp; intro w hp
        refine W_move rfl rfl ?_
        refine W_index_s Tryd.underlying9 (a := D64) (b := dg k) rfl rfl (by omega) (by rw [Int.toNat_natCast]; exact D64_at hlt) rfl ?_
        refine W_move rfl rfl ?_
        first
          | (refine W_eql_t rfl rfl ?_ rfl ?_; (focus (omega)))
          | (refine W_eql_f rfl rfl ?_ rfl ?_; (focus (omega)))
          | (refine W_eql rfl rfl rfl ?_)
        refine W_nil ?_
        refine N_then_k ?_
        first
          | refine K_cond_d rfl (fun hc2 => ?_) (fun hc2 => ?_)
          | refine K_cond_n rfl (fun hc2 => ?_) (fun hc2 => ?_)
          | refine K_cond_nb rfl (fun hc2 => ?_) (fun hc2 => ?_)
          | refine K_cond_t rfl (fun hc2 => ?_) (fun hc2 => ?_)
        · try (exfalso; first | omega | (simp only [Bool.false_eq_true, reduceCtorEq] at hc2; done) | (refine absurd hc2 ?_; with_reducible assumption) | (refine absurd ?_ hc2; with_reducible assumption))
          all_goals (
           refine K_seq ?_
           refine K_region ?_
           refine W_move rfl rfl ?_
           refine W_assign rfl rfl ?_
           refine W_nil ?_
           refine N_then_k ?_
           refine K_ret ?_
           refine N_block_ret ?_
           refine N_then_ret ?_
           refine N_then_ret ?_
           refine N_block_ret ?_
           refine N_then_ret ?_
           refine N_done1 (.inr rfl) rfl rfl ?_
           refine ⟨_, rfl, congrArg (Value.int .i64) ?_, hp.nil⟩
           first
             | (have e : dg k = c := UInt8.toNat_inj.1 (by omega)
                rw [← e, v64_dg k hlt])
             | (have hvr := v64_range c
                rcases Int.lt_or_le (v64 c) 0 with h | h
                · omega
                · exact absurd (dg_v64 c h) (ha _ (by omega))))
        · try (exfalso; first | omega | (simp only [Bool.false_eq_true, reduceCtorEq] at hc2; done) | (refine absurd hc2 ?_; with_reducible assumption) | (refine absurd ?_ hc2; with_reducible assumption))
          all_goals (
           refine K_skip ?_
           refine N_block_normal ?_
           refine N_then_k ?_
           refine K_region ?_
           refine W_move rfl rfl ?_
           first
             | (refine W_add rfl rfl (wr_i64 ?_) rfl ?_; (focus (omega)))
             | (refine W_add rfl rfl rfl rfl ?_)
           refine W_assign rfl rfl ?_
           refine W_nil ?_
           refine N_again (k + 1) (sub_end ?_ ?_) ?_ ?_
           · repeat' (first | exact sub_lst_nil (sub_nil _) | refine sub_lst rfl ?_ | (refine sub_lst_eq rfl ?_ ?_; · first | rfl | (simp; done) | (congr 1; omega)))
           · repeat' (first | exact sub_refl _ | exact sub_strip _ _ | refine sub_s_cons rfl ?_ | refine sub_s_lst rfl ?_ | refine sub_s_strip rfl ?_)
           · refine ⟨hp, hlt, ?_⟩
             intro j hj
             rcases Nat.lt_or_ge j k with h | h
             · exact ha j h
             · obtain rfl : j = k := by omega
               intro e
               exact absurd (congrArg (fun c : UInt8 => (c.toNat : Int)) e) (by assumption)
           · omega))
     · try (exfalso; first | omega | (simp only [Bool.false_eq_true, reduceCtorEq] at hc1; done) | (refine absurd hc1 ?_; with_reducible assumption) | (refine absurd ?_ hc1; with_reducible assumption))
       all_goals (
        refine K_exit ?_
        refine N_then_exit ?_
        refine N_then_exit ?_
        refine N_block_exit ?_
        refine N_then_k ?_
        refine K_seq ?_
        refine K_region ?_
        refine W_assign rfl rfl ?_
        refine W_nil ?_
        refine N_then_k ?_
        refine K_ret ?_
        refine N_done1 (.inr rfl) rfl rfl ?_
        refine ⟨_, rfl, congrArg (Value.int .i64) ?_, hp.nil⟩
        first
          | (have e : dg k = c := UInt8.toNat_inj.1 (by omega)
             rw [← e, v64_dg k hlt])
          | (have hvr := v64_range c
             rcases Int.lt_or_le (v64 c) 0 with h | h
             · omega
             · exact absurd (dg_v64 c h) (ha _ (by omega)))))

end Go.Proofs.YtbdmaiipohfnaaaDoor
