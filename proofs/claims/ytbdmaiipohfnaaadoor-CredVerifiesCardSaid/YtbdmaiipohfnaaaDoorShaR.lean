/-
  The reference implementation of package digest, walked: primes, and the multiplication.
-/
import Derived.Test.YtbdmaiipohfnaaaDoorShaN
namespace Go.Proofs.YtbdmaiipohfnaaaDoor
open Go.Sx Go.RowKit
set_option linter.unusedVariables false
set_option linter.unusedSimpArgs false
set_option maxRecDepth 100000

theorem intsV_get {L : List Nat} {o k : Nat} (ho : o = k) (h : k < L.length) : (intsV L)[o]? = some (.int .i64 ((L.getD k 0 : Nat) : Int)) := by
  subst ho
  rw [intsV_at (List.getElem?_eq_getElem h), List.getD_eq_getElem?_getD, List.getElem?_eq_getElem h]; rfl
theorem setn {L : List Nat} {o k x : Nat} (ho : o = k) (hk : k < L.length) : (intsV L).take o ++ [Value.int .i64 (x : Int)] ++ (intsV L).drop (o + 1) = intsV (L.set k x) := by
  subst ho
  have e : (intsV L).set o (Value.int .i64 (x : Int)) = intsV (L.set o x) := by simp [intsV, List.map_set]
  rw [← e, List.set_eq_take_append_cons_drop, if_pos (by rw [intsV_length]; exact hk)]
  simp
theorem add_nat {x y : Nat} (h : x + y ≤ 4611686018427387904) : IntKind.i64.wrap ((x : Int) + (y : Int)) = ((x + y : Nat) : Int) := by rw [← Int.natCast_add]; exact wr_i64 (by omega)
theorem mul_nat {x y : Nat} (h : x * y ≤ 4611686018427387904) : IntKind.i64.wrap ((x : Int) * (y : Int)) = ((x * y : Nat) : Int) := by rw [← Int.natCast_mul]; exact wr_i64 (by omega)
theorem quo_nat {x : Nat} (h : x ≤ 4611686018427387904) : IntKind.i64.wrap ((x : Int).tdiv 65536) = ((x / 65536 : Nat) : Int) := by
  have : (x : Int).tdiv 65536 = ((x / 65536 : Nat) : Int) := rfl
  rw [this]; exact wr_i64 (by omega)
theorem rem_nat (x : Nat) : (x : Int).tmod 65536 = ((x % 65536 : Nat) : Int) := rfl
theorem noDiv_two (n : Nat) : noDiv n 2 = true := by simp [noDiv, List.range_succ]
theorem prL_next {n : Nat} (h2 : 2 ≤ n) {b : Bool} (h : noDiv n n = b) : prL (n + 1) = prL n ++ if b then [n] else [] := by
  rw [prL_succ, show isPr n = b by unfold isPr; rw [decide_eq_true h2, Bool.true_and, h]]

set_option maxHeartbeats 800000 in
theorem primes_spec (w0 : World) (many N : Nat) (hN : (prL N).length = many) (h2 : 2 ≤ N) (hN2 : N ≤ 1000) : RetB Tryd.prog 70 [.int .i64 (many : Int)] (fun v G => OSi 3 v (prL N) G) w0 := by
  refine RetB.intro go70 Tryd.func70 rfl rfl fun hp => ?_
  refine (fun (hk : ∀ w, Hp w0 [] [] w → K _ _ _ _ _ w) => hk w0 hp) fun w hp => ?_
  refine K_seq ?_
  refine K_region ?_
  refine W_assign rfl rfl ?_
  refine W_nil ?_
  refine N_then_k ?_
  refine K_seq ?_
  refine K_region ?_
  refine W_assign rfl rfl ?_
  refine W_nil ?_
  refine N_then_k ?_
  refine K_seq ?_
  refine K_seq ?_
  refine K_region ?_
  refine W_assign rfl rfl ?_
  refine W_nil ?_
  refine N_then_k ?_
  refine K_block ?_
  refine K_loop (σ := Nat × Value × Heap) [3, 4, 5, 6, 7, 8, 9, 10, 11, 12, 13, 14, 15, 16, 17, 18, 19, 20, 21, 22, 23, 24, 25, 26]
      (fun q => [(4, .int .i64 q.1), (3, q.2.1)])
      (fun q w => OSi 3 q.2.1 (prL q.1) q.2.2 ∧ Hp w0 [] q.2.2 w ∧ 2 ≤ q.1 ∧ q.1 ≤ N)
      (fun q => N - q.1) ((2, .slice none 0 0, [])) ?_ ?_ ?_
  · repeat' (first | exact sub_lst_nil (sub_nil _) | refine sub_lst rfl ?_ | (refine sub_lst_eq rfl ?_ ?_; · first | rfl | (simp; done) | (congr 1; omega)))
  · exact ⟨OSi.nil, hp, Nat.le_refl _, h2⟩
  · intro ⟨n, v, Hs⟩ w hJ
    clear hp
    obtain ⟨hos, hp, hge, hle⟩ := hJ
    simp only at hos hp hge hle
    change K _ _ _ _ (.lst ([(4, .int .i64 n), (3, v)]) _) _
    obtain ⟨Av, cv, rfl⟩ := hos.form
    refine K_seq ?_
    refine K_seq ?_
    refine K_region ?_
    refine W_move rfl rfl ?_
    refine W_len_sl Tryd.underlying85 rfl rfl ?_
    refine W_move rfl rfl ?_
    first
      | (refine W_lss_t rfl rfl ?_ rfl ?_; (focus (omega)))
      | (refine W_lss_f rfl rfl ?_ rfl ?_; (focus (omega)))
      | (refine W_lss rfl rfl rfl ?_)
    refine W_nil ?_
    refine N_then_k ?_
    first
      | refine K_cond_d rfl (fun hc1 => ?_) (fun hc1 => ?_)
      | refine K_cond_n rfl (fun hc1 => ?_) (fun hc1 => ?_)
      | refine K_cond_nb rfl (fun hc1 => ?_) (fun hc1 => ?_)
      | refine K_cond_t rfl (fun hc1 => ?_) (fun hc1 => ?_)
    · try (exfalso; first | omega | (simp only [Bool.false_eq_true, reduceCtorEq] at hc1; done) | (refine absurd hc1 ?_; with_reducible assumption) | (refine absurd ?_ hc1; with_reducible assumption))
      all_goals (
       refine K_skip ?_
       refine N_then_k ?_
       refine K_seq ?_
       refine K_block ?_
       refine K_seq ?_
       refine K_region ?_
       have hlt : n < N := by
         rcases Nat.lt_or_ge n N with h | h
         · exact h
         · exfalso; obtain rfl : n = N := by omega
           omega
       refine W_assign rfl rfl ?_
       refine W_nil ?_
       refine N_then_k ?_
       refine K_seq ?_
       refine K_seq ?_
       refine K_region ?_
       refine W_assign rfl rfl ?_
       refine W_nil ?_
       refine N_then_k ?_
       refine K_block ?_
       refine K_loop (σ := Nat) [5, 6, 13, 14, 15, 16, 17, 18, 19, 20, 21]
           (fun d => [(6, .int .i64 d), (5, .bool (noDiv n d))])
           (fun d w => Hp w0 [] Hs w ∧ 2 ≤ d ∧ d ≤ n)
           (fun d => n - d) (2) ?_ ?_ ?_
       · repeat' (first | exact sub_lst_nil (sub_nil _) | refine sub_lst rfl ?_ | (refine sub_lst_eq rfl ?_ ?_; · first | rfl | ((rw [noDiv_two])) | (simp; done) | (congr 1; omega)))
       · exact ⟨hp, Nat.le_refl _, hge⟩
       · intro d w hJ
         clear hp
         obtain ⟨hp, hd2, hdn⟩ := hJ
         refine K_seq ?_
         refine K_seq ?_
         refine K_region ?_
         refine W_move rfl rfl ?_
         refine W_move rfl rfl ?_
         first
           | (refine W_lss_t rfl rfl ?_ rfl ?_; (focus (omega)))
           | (refine W_lss_f rfl rfl ?_ rfl ?_; (focus (omega)))
           | (refine W_lss rfl rfl rfl ?_)
         refine W_nil ?_
         refine N_then_k ?_
         first
           | refine K_cond_d rfl (fun hc2 => ?_) (fun hc2 => ?_)
           | refine K_cond_n rfl (fun hc2 => ?_) (fun hc2 => ?_)
           | refine K_cond_nb rfl (fun hc2 => ?_) (fun hc2 => ?_)
           | refine K_cond_t rfl (fun hc2 => ?_) (fun hc2 => ?_)
         · try (exfalso; first | omega | (simp only [Bool.false_eq_true, reduceCtorEq] at hc2; done) | (refine absurd hc2 ?_; with_reducible assumption) | (refine absurd ?_ hc2; with_reducible assumption))
           all_goals (
            refine K_skip ?_
            refine N_then_k ?_
            refine K_seq ?_
            refine K_block ?_
            refine K_seq ?_
            refine K_region ?_
            refine W_move rfl rfl ?_
            refine W_move rfl rfl ?_
            first
              | (refine W_rem rfl rfl ?_ (rem_nn ?_) rfl ?_; (focus (omega)); (focus (omega)))
              | (refine W_rem rfl rfl ?_ rfl rfl ?_; (focus (omega)))
            first
              | (refine W_eql_t rfl rfl ?_ rfl ?_; (focus (omega)))
              | (refine W_eql_f rfl rfl ?_ rfl ?_; (focus (omega)))
              | (refine W_eql rfl rfl rfl ?_)
            refine W_nil ?_
            refine N_then_k ?_
            first
              | refine K_cond_d rfl (fun hc3 => ?_) (fun hc3 => ?_)
              | refine K_cond_n rfl (fun hc3 => ?_) (fun hc3 => ?_)
              | refine K_cond_nb rfl (fun hc3 => ?_) (fun hc3 => ?_)
              | refine K_cond_t rfl (fun hc3 => ?_) (fun hc3 => ?_)
            · try (exfalso; first | omega | (simp only [Bool.false_eq_true, reduceCtorEq] at hc3; done) | (refine absurd hc3 ?_; with_reducible assumption) | (refine absurd ?_ hc3; with_reducible assumption))
              all_goals (
               refine K_region ?_
               refine W_assign rfl rfl ?_
               refine W_nil ?_
               refine N_block_normal ?_
               refine N_then_k ?_
               refine K_region ?_
               refine W_move rfl rfl ?_
               first
                 | (refine W_add rfl rfl (wr_i64 ?_) rfl ?_; (focus (omega)))
                 | (refine W_add rfl rfl rfl rfl ?_)
               refine W_assign rfl rfl ?_
               refine W_nil ?_
               refine N_again (d + 1) (sub_end ?_ ?_) ?_ ?_
               · repeat' (first | exact sub_lst_nil (sub_nil _) | refine sub_lst rfl ?_ | (refine sub_lst_eq rfl ?_ ?_; · first | rfl | ((refine congrArg Value.bool ?_; rw [noDiv_succ]; first | (rw [decide_eq_true (show d < 2 ∨ n % d ≠ 0 by omega), Bool.and_true]) | (rw [decide_eq_false (show ¬ (d < 2 ∨ n % d ≠ 0) by omega), Bool.and_false]))) | (simp; done) | (congr 1; omega)))
               · repeat' (first | exact sub_refl _ | exact sub_strip _ _ | refine sub_s_cons rfl ?_ | refine sub_s_lst rfl ?_ | refine sub_s_strip rfl ?_)
               · exact ⟨hp, by omega, by omega⟩
               · omega)
            · try (exfalso; first | omega | (simp only [Bool.false_eq_true, reduceCtorEq] at hc3; done) | (refine absurd hc3 ?_; with_reducible assumption) | (refine absurd ?_ hc3; with_reducible assumption))
              all_goals (
               refine K_skip ?_
               refine N_block_normal ?_
               refine N_then_k ?_
               refine K_region ?_
               refine W_move rfl rfl ?_
               first
                 | (refine W_add rfl rfl (wr_i64 ?_) rfl ?_; (focus (omega)))
                 | (refine W_add rfl rfl rfl rfl ?_)
               refine W_assign rfl rfl ?_
               refine W_nil ?_
               refine N_again (d + 1) (sub_end ?_ ?_) ?_ ?_
               · repeat' (first | exact sub_lst_nil (sub_nil _) | refine sub_lst rfl ?_ | (refine sub_lst_eq rfl ?_ ?_; · first | rfl | ((refine congrArg Value.bool ?_; rw [noDiv_succ]; first | (rw [decide_eq_true (show d < 2 ∨ n % d ≠ 0 by omega), Bool.and_true]) | (rw [decide_eq_false (show ¬ (d < 2 ∨ n % d ≠ 0) by omega), Bool.and_false]))) | (simp; done) | (congr 1; omega)))
               · repeat' (first | exact sub_refl _ | exact sub_strip _ _ | refine sub_s_cons rfl ?_ | refine sub_s_lst rfl ?_ | refine sub_s_strip rfl ?_)
               · exact ⟨hp, by omega, by omega⟩
               · omega))
         · try (exfalso; first | omega | (simp only [Bool.false_eq_true, reduceCtorEq] at hc2; done) | (refine absurd hc2 ?_; with_reducible assumption) | (refine absurd ?_ hc2; with_reducible assumption))
           all_goals (
            refine K_exit ?_
            refine N_then_exit ?_
            refine N_then_exit ?_
            refine N_block_exit ?_
            refine N_then_k ?_
            refine K_seq ?_
            refine K_region ?_
            obtain rfl : d = n := by omega
            have hpl : (prL d).length ≤ d := Nat.le_trans (List.length_filter_le _ _) (by simp)
            refine W_move rfl rfl ?_
            refine W_nil ?_
            refine N_then_k ?_
            first
              | refine K_cond_d rfl (fun hc4 => ?_) (fun hc4 => ?_)
              | refine K_cond_n rfl (fun hc4 => ?_) (fun hc4 => ?_)
              | refine K_cond_nb rfl (fun hc4 => ?_) (fun hc4 => ?_)
              | refine K_cond_t rfl (fun hc4 => ?_) (fun hc4 => ?_)
            · try (exfalso; first | omega | (simp only [Bool.false_eq_true, reduceCtorEq] at hc4; done) | (refine absurd hc4 ?_; with_reducible assumption) | (refine absurd ?_ hc4; with_reducible assumption))
              all_goals (
               refine K_region ?_
               refine W_move rfl rfl ?_
               refine W_move rfl rfl ?_
               refine W_bslice1 hp Tryd.underlying85 sz3 zv3 rfl  rfl  (fun v0 => [v0]) rfl rfl rfl ?_
               clear hp; intro b25 w hp
               try simp only [List.append_nil] at hp
               rw [← List.append_nil Hs] at hp
               refine W_append_sl (A := [_]) (B := []) _ rfl hp rfl Tryd.underlying85 sz3 pb3 zv3 rfl rfl rfl rfl hos (Rd.own hp (by first | exact List.mem_cons_self | exact .tail _ (.head _) | exact .tail _ (.tail _ (.head _)) | exact .tail _ (.tail _ (.tail _ (.head _))) | exact .tail _ (.tail _ (.tail _ (.tail _ (.head _)))) | exact .tail _ (.tail _ (.tail _ (.tail _ (.tail _ (.head _))))) | exact List.mem_append_right _ (.head _) | exact List.mem_append_right _ (.tail _ (.head _)) | exact List.mem_append_right _ (.tail _ (.tail _ (.head _))) | exact .tail _ (List.mem_append_right _ (.head _)) | exact .tail _ (List.mem_append_right _ (.tail _ (.head _))) | assumption | (repeat (first | exact List.mem_cons_self | apply List.mem_append_right | apply List.mem_cons_of_mem))) (List.prefix_refl _)) ?_ ?_ ?_ ?_ rfl ?_
               · rfl
               · first | (simp [Value.oneCell']; done) | (simp [Value.oneCell', strV]; done)
               · (simp only [maxLen]; omega)
               · omega
               clear hp; intro va26 Hs w hos hp
               replace hos := OSi.app (b := [d]) rfl rfl hos
               obtain ⟨Aw, cw, rfl⟩ := hos.form
               refine W_assign rfl rfl ?_
               refine W_nil ?_
               refine N_block_normal ?_
               refine N_then_k ?_
               refine K_region ?_
               refine W_move rfl rfl ?_
               first
                 | (refine W_add rfl rfl (wr_i64 ?_) rfl ?_; (focus (omega)))
                 | (refine W_add rfl rfl rfl rfl ?_)
               refine W_assign rfl rfl ?_
               refine W_nil ?_
               first
                 | (refine N_again (d + 1, .slice Aw (prL d ++ [d]).length cw, Hs) (sub_end ?_ ?_) ⟨by show OSi _ _ (prL (d + 1)) _; rw [prL_next hge (b := true) (by assumption)]; exact hos, by simpa using hp.drop (List.sublist_cons_self _ _), by show 2 ≤ d + 1; omega, by show d + 1 ≤ N; omega⟩ ?_
                    · repeat' (first | exact sub_lst_nil (sub_nil _) | refine sub_lst rfl ?_ | (refine sub_lst_eq rfl ?_ ?_; · first | rfl | (simp; done) | (congr 1; omega)))
                    · repeat' (first | exact sub_refl _ | exact sub_strip _ _ | refine sub_s_cons rfl ?_ | refine sub_s_lst rfl ?_ | refine sub_s_strip rfl ?_)
                    · show _ < _; simp only; omega)
                 | (refine N_again (d + 1, .slice Av (prL d).length cv, Hs) (sub_end ?_ ?_) ⟨by show OSi _ _ (prL (d + 1)) _; rw [prL_next hge (b := false) (by assumption)]; simpa using hos, hp, by show 2 ≤ d + 1; omega, by show d + 1 ≤ N; omega⟩ ?_
                    · repeat' (first | exact sub_lst_nil (sub_nil _) | refine sub_lst rfl ?_ | (refine sub_lst_eq rfl ?_ ?_; · first | rfl | (simp; done) | (congr 1; omega)))
                    · repeat' (first | exact sub_refl _ | exact sub_strip _ _ | refine sub_s_cons rfl ?_ | refine sub_s_lst rfl ?_ | refine sub_s_strip rfl ?_)
                    · show _ < _; simp only; omega))
            · try (exfalso; first | omega | (simp only [Bool.false_eq_true, reduceCtorEq] at hc4; done) | (refine absurd hc4 ?_; with_reducible assumption) | (refine absurd ?_ hc4; with_reducible assumption))
              all_goals (
               refine K_skip ?_
               refine N_block_normal ?_
               refine N_then_k ?_
               refine K_region ?_
               refine W_move rfl rfl ?_
               first
                 | (refine W_add rfl rfl (wr_i64 ?_) rfl ?_; (focus (omega)))
                 | (refine W_add rfl rfl rfl rfl ?_)
               refine W_assign rfl rfl ?_
               refine W_nil ?_
               first
                 | (refine N_again (d + 1, .slice Aw (prL d ++ [d]).length cw, Hs) (sub_end ?_ ?_) ⟨by show OSi _ _ (prL (d + 1)) _; rw [prL_next hge (b := true) (by assumption)]; exact hos, by simpa using hp.drop (List.sublist_cons_self _ _), by show 2 ≤ d + 1; omega, by show d + 1 ≤ N; omega⟩ ?_
                    · repeat' (first | exact sub_lst_nil (sub_nil _) | refine sub_lst rfl ?_ | (refine sub_lst_eq rfl ?_ ?_; · first | rfl | (simp; done) | (congr 1; omega)))
                    · repeat' (first | exact sub_refl _ | exact sub_strip _ _ | refine sub_s_cons rfl ?_ | refine sub_s_lst rfl ?_ | refine sub_s_strip rfl ?_)
                    · show _ < _; simp only; omega)
                 | (refine N_again (d + 1, .slice Av (prL d).length cv, Hs) (sub_end ?_ ?_) ⟨by show OSi _ _ (prL (d + 1)) _; rw [prL_next hge (b := false) (by assumption)]; simpa using hos, hp, by show 2 ≤ d + 1; omega, by show d + 1 ≤ N; omega⟩ ?_
                    · repeat' (first | exact sub_lst_nil (sub_nil _) | refine sub_lst rfl ?_ | (refine sub_lst_eq rfl ?_ ?_; · first | rfl | (simp; done) | (congr 1; omega)))
                    · repeat' (first | exact sub_refl _ | exact sub_strip _ _ | refine sub_s_cons rfl ?_ | refine sub_s_lst rfl ?_ | refine sub_s_strip rfl ?_)
                    · show _ < _; simp only; omega))))
    · try (exfalso; first | omega | (simp only [Bool.false_eq_true, reduceCtorEq] at hc1; done) | (refine absurd hc1 ?_; with_reducible assumption) | (refine absurd ?_ hc1; with_reducible assumption))
      all_goals (
       refine K_exit ?_
       refine N_then_exit ?_
       refine N_then_exit ?_
       refine N_block_exit ?_
       refine N_then_k ?_
       refine K_seq ?_
       refine K_region ?_
       refine W_move rfl rfl ?_
       refine W_assign rfl rfl ?_
       refine W_nil ?_
       refine N_then_k ?_
       refine K_ret ?_
       refine N_done1 (.inr rfl) rfl rfl ?_
       have he := prL_eq hle (by omega)
       rw [he] at hos
       exact ⟨_, by rw [he], Hs, hp, hos⟩)

theorem digits_spec (w0 : World) (n : Nat) (hn : n < 281474976710656) : RetB Tryd.prog 87 [.int .i64 (n : Int)] (fun v G => OSi 3 v (digs 3 n) G) w0 := by
  refine RetB.intro go87 Tryd.func87 rfl rfl fun hp => ?_
  refine (fun (hk : ∀ w, Hp w0 [] [] w → K _ _ _ _ _ w) => hk w0 hp) fun w hp => ?_
  refine K_seq ?_
  refine K_region ?_
  refine W_assign rfl rfl ?_
  refine W_nil ?_
  refine N_then_k ?_
  refine K_seq ?_
  refine K_region ?_
  refine W_move rfl rfl ?_
  first
    | (refine W_rem rfl rfl ?_ (rem_nn ?_) rfl ?_; (focus (omega)); (focus (omega)))
    | (refine W_rem rfl rfl ?_ rfl rfl ?_; (focus (omega)))
  refine W_move rfl rfl ?_
  first
    | (refine W_quo rfl rfl ?_ (quo_nn ?_ (wr_i64 ?_)) rfl ?_; (focus (omega)); (focus (omega)); (focus (omega)))
    | (refine W_quo rfl rfl ?_ rfl rfl ?_; (focus (omega)))
  first
    | (refine W_rem rfl rfl ?_ (rem_nn ?_) rfl ?_; (focus (omega)); (focus (omega)))
    | (refine W_rem rfl rfl ?_ rfl rfl ?_; (focus (omega)))
  refine W_move rfl rfl ?_
  first
    | (refine W_quo rfl rfl ?_ (quo_nn ?_ (wr_i64 ?_)) rfl ?_; (focus (omega)); (focus (omega)); (focus (omega)))
    | (refine W_quo rfl rfl ?_ rfl rfl ?_; (focus (omega)))
  first
    | (refine W_quo rfl rfl ?_ (quo_nn ?_ (wr_i64 ?_)) rfl ?_; (focus (omega)); (focus (omega)); (focus (omega)))
    | (refine W_quo rfl rfl ?_ rfl rfl ?_; (focus (omega)))
  refine W_bslice3 hp Tryd.underlying85 sz3 zv3 rfl rfl rfl  rfl rfl rfl  (fun v0 v1 v2 => [v0, v1, v2]) rfl rfl rfl ?_
  clear hp; intro b11 w hp
  refine W_assign rfl rfl ?_
  refine W_nil ?_
  refine N_then_k ?_
  refine K_ret ?_
  refine N_done1 (.inr rfl) rfl rfl ?_
  have e : ([.int .i64 ((n : Int) % 65536), .int .i64 ((n : Int) / 65536 % 65536), .int .i64 ((n : Int) / 65536 / 65536)] : List Value) = intsV (digs 3 n) := by simp [intsV, digs]; try omega
  rw [e] at hp
  exact ⟨_, rfl, [_], hp, OS.lit rfl (by decide)⟩

theorem carry_small {L : List Nat} {i : Nat} (h : ∀ k, k < i → L.getD k 0 < 65536) : ∀ k, k < i + 1 → (carry L i).getD k 0 < 65536 := by
  intro k hk
  by_cases e : i = k
  · subst e
    by_cases hl : i < L.length
    · unfold carry; rw [getD_set_same (by rw [List.length_set]; exact hl)]; omega
    · have e0 : (carry L i).getD i 0 = 0 := by rw [List.getD_eq_getElem?_getD, List.getElem?_eq_none (by rw [carry_length]; omega)]; rfl
      rw [e0]; omega
  · unfold carry; rw [getD_set_ne e, getD_set_ne (by omega)]; exact h k (by omega)
theorem addAt_le {L : List Nat} {k x b : Nat} (h : ∀ j, L.getD j 0 ≤ b) : ∀ j, j ≠ k → (addAt L k x).getD j 0 ≤ b := by
  intro j hj; unfold addAt; rw [getD_set_ne (Ne.symm hj)]; exact h j
theorem addAt_same {L : List Nat} {k x : Nat} (h : k < L.length) : (addAt L k x).getD k 0 = L.getD k 0 + x := by unfold addAt; rw [getD_set_same h]
theorem carry_le2 {L : List Nat} {k x b : Nat} (hk : k < L.length) (h : ∀ j, L.getD j 0 ≤ b) (hx : x ≤ 4294967296) (hb : 65535 ≤ b) (hb2 : b ≤ 4294967296) : ∀ j, (carry (addAt L k x) k).getD j 0 ≤ b + 131072 := by
  intro j
  have h1 := h k
  have hs := addAt_same (x := x) hk
  by_cases e : k = j
  · subst e
    unfold carry
    rw [getD_set_same (by rw [List.length_set, addAt_length]; exact hk)]; omega
  · by_cases e2 : k + 1 = j
    · subst e2
      have h2 := addAt_le (k := k) (x := x) h (k + 1) (by omega)
      unfold carry
      rw [getD_set_ne (by omega)]
      by_cases hl : k + 1 < L.length
      · rw [getD_set_same (by rw [addAt_length]; exact hl), hs]; omega
      · rw [List.set_eq_of_length_le (by rw [addAt_length]; omega)]; omega
    · have h2 := addAt_le (k := k) (x := x) h j (Ne.symm e)
      unfold carry
      rw [getD_set_ne e, getD_set_ne e2]; omega
theorem times_step (a b : List Nat) {L : List Nat} {i j m : Nat} (hl : L.length = m) (hij : i + j + 1 < m) (hv : valD L = valD (a.take i) * valD b + a.getD i 0 * 65536 ^ i * valD (b.take j)) (hj : j < b.length) :
    valD (carry (addAt L (i + j) (a.getD i 0 * b.getD j 0)) (i + j)) = valD (a.take i) * valD b + a.getD i 0 * 65536 ^ i * valD (b.take (j + 1)) := by
  rw [carry_val (by rw [addAt_length]; omega), addAt_val (by omega), hv, valD_step hj, Nat.mul_add, ← Nat.add_assoc]
  congr 1
  rw [Nat.pow_add]
  exact Nat.mul_mul_mul_comm _ _ _ _
theorem times_end {L : List Nat} {m V : Nat} (hl : L.length = m + 1) (hv : valD L = V) (hV : V < 65536 ^ m) (hs : ∀ k, k < m → L.getD k 0 < 65536) : L = digs (m + 1) V := by
  have hlast : L.getD m 0 = 0 := by
    rcases Nat.eq_zero_or_pos (L.getD m 0) with h | h
    · exact h
    · exfalso
      have hx : L[m]? = some (L.getD m 0) := by rw [List.getD_eq_getElem?_getD, List.getElem?_eq_getElem (by omega)]; rfl
      have := valD_pos hx h
      omega
  have h := digs_valD L (fun x hx => by
    obtain ⟨k, hk, rfl⟩ := List.mem_iff_getElem.1 hx
    have e : L[k] = L.getD k 0 := by rw [List.getD_eq_getElem?_getD, List.getElem?_eq_getElem hk]; rfl
    rw [e]
    rcases Nat.lt_or_ge k m with h1 | h1
    · exact hs k h1
    · obtain rfl : k = m := by omega
      rw [hlast]; decide)
  rw [hl, hv] at h
  exact h
theorem valD_rep (k : Nat) : valD (List.replicate k 0) = 0 := valD_zero fun x hx => (List.mem_replicate.1 hx).2
theorem rep_intsV (k : Nat) : List.replicate k (Value.int .i64 0) = intsV (List.replicate k 0) := by simp [intsV]

theorem getD_small {L : List Nat} (h : ∀ x ∈ L, x < 65536) (k : Nat) : L.getD k 0 < 65536 := by
  rw [List.getD_eq_getElem?_getD]
  cases hk : L[k]? with
  | none => decide
  | some x => exact h x (List.mem_of_getElem? hk)

set_option maxHeartbeats 1600000 in
theorem times_spec (w0 : World) (a : List Nat) (Aa : Option Addr) (ca : Nat) (hra : Rd w0 (.slice Aa a.length ca) a.length (intsV a)) (b : List Nat) (Ab : Option Addr) (cb : Nat) (hrb : Rd w0 (.slice Ab b.length cb) b.length (intsV b)) (ha : ∀ x ∈ a, x < 65536) (hb : ∀ x ∈ b, x < 65536) (hal : a.length ≤ 7) (ha0 : 0 < a.length) (hbl : b.length = 3) : RetB Tryd.prog 88 [.slice Aa a.length ca, .slice Ab b.length cb] (fun v G => OSi 3 v (digs (a.length + 4) (valD a * valD b)) G) w0 := by
  have hVa := valD_lt a ha
  have hVb := valD_lt b hb
  obtain ⟨ba, oa, rfl⟩ := hra.some (by intro e; have := congrArg List.length e; rw [intsV_length, List.length_nil] at this; omega)
  obtain ⟨bb, ob, rfl⟩ := hrb.some (by intro e; have := congrArg List.length e; rw [intsV_length, List.length_nil] at this; omega)
  refine RetB.intro go88 Tryd.func88 rfl rfl fun hp => ?_
  refine (fun (hk : ∀ w, Hp w0 [] [] w → K _ _ _ _ _ w) => hk w0 hp) fun w hp => ?_
  refine K_seq ?_
  refine K_region ?_
  refine W_assign rfl rfl ?_
  refine W_nil ?_
  refine N_then_k ?_
  refine K_seq ?_
  refine K_region ?_
  refine W_move rfl rfl ?_
  refine W_len_sl Tryd.underlying85 rfl rfl ?_
  refine W_move rfl rfl ?_
  refine W_len_sl Tryd.underlying85 rfl rfl ?_
  first
    | (refine W_add rfl rfl (wr_i64 ?_) rfl ?_; (focus (omega)))
    | (refine W_add rfl rfl rfl rfl ?_)
  refine W_val rfl (inb_of rfl) (R_add (r := ((a.length + 4 : Nat) : Int)) rfl rfl (by rw [wr_i64] <;> omega)) ?_
  refine W_make (k := (a.length + 4)) (c := (a.length + 4)) hp Tryd.underlying85 sz3 pb3 zv3 rfl rfl ?_ ?_ ?_ (made_one _) rfl ?_
  · first | exact Nat.le_refl _ | omega
  · first | omega | (simp; omega)
  · omega
  clear hp; intro b15 w hp
  rw [rep_intsV] at hp
  refine W_assign rfl rfl ?_
  refine W_nil ?_
  refine N_then_k ?_
  refine K_seq ?_
  refine K_seq ?_
  refine K_region ?_
  refine W_assign rfl rfl ?_
  refine W_nil ?_
  refine N_then_k ?_
  refine K_block ?_
  refine K_loop (σ := Nat × List Nat) [6, 7, 16, 17, 18, 19, 20, 21, 22, 23, 24, 25, 26, 27, 28, 29, 30, 31, 32, 33, 34, 35, 36, 37, 38, 39, 40, 41, 42, 43, 44, 45, 46, 47, 48, 49, 50, 51, 52, 53, 54, 55, 56, 57, 58, 59, 60, 61, 62, 63, 64, 65, 66, 67, 68, 69, 70, 71, 72, 73, 74, 75, 76, 77, 78, 79, 80, 81]
      (fun q => [(6, .int .i64 q.1)])
      (fun q w => Hp w0 [] [(b15, .cells (intsV q.2).toArray 3)] w ∧ q.2.length = a.length + 4 ∧ valD q.2 = valD (a.take q.1) * valD b ∧ (∀ k, q.2.getD k 0 ≤ 65535 + (3 * q.1) * 131072) ∧ q.1 ≤ a.length)
      (fun q => a.length - q.1) ((0, List.replicate (a.length + 4) 0)) ?_ ?_ ?_
  · repeat' (first | exact sub_lst_nil (sub_nil _) | refine sub_lst rfl ?_ | (refine sub_lst_eq rfl ?_ ?_; · first | rfl | (simp; done) | (congr 1; omega)))
  · refine ⟨hp, by simp, by simp [valD_rep, valD], fun k => ?_, Nat.zero_le _⟩
    have : (List.replicate (a.length + 4) 0).getD k 0 = 0 := by rw [List.getD_eq_getElem?_getD, List.getElem?_replicate]; split <;> rfl
    show (List.replicate (a.length + 4) 0).getD k 0 ≤ _
    rw [this]; exact Nat.zero_le _
  · intro ⟨i, L⟩ w hJ
    clear hp
    obtain ⟨hp, hl, hv, hbd, hle⟩ := hJ
    simp only at hp hl hv hbd hle
    change K _ _ _ _ (.lst ([(6, .int .i64 i)]) _) _
    rcases Nat.lt_or_ge i a.length with hlt | hge
    all_goals (
     refine K_seq ?_
     refine K_seq ?_
     refine K_region ?_
     refine W_move rfl rfl ?_
     refine W_move rfl rfl ?_
     refine W_len_sl Tryd.underlying85 rfl rfl ?_
     first
       | (refine W_lss_t rfl rfl ?_ rfl ?_; (focus (omega)))
       | (refine W_lss_f rfl rfl ?_ rfl ?_; (focus (omega)))
       | (refine W_lss rfl rfl rfl ?_)
     refine W_nil ?_
     refine N_then_k ?_
     first
       | refine K_cond_d rfl (fun hc1 => ?_) (fun hc1 => ?_)
       | refine K_cond_n rfl (fun hc1 => ?_) (fun hc1 => ?_)
       | refine K_cond_nb rfl (fun hc1 => ?_) (fun hc1 => ?_)
       | refine K_cond_t rfl (fun hc1 => ?_) (fun hc1 => ?_)
     · try (exfalso; first | omega | (simp only [Bool.false_eq_true, reduceCtorEq] at hc1; done) | (refine absurd hc1 ?_; with_reducible assumption) | (refine absurd ?_ hc1; with_reducible assumption))
       all_goals (
        refine K_skip ?_
        refine N_then_k ?_
        refine K_seq ?_
        refine K_block ?_
        refine K_seq ?_
        refine K_region ?_
        refine W_assign rfl rfl ?_
        refine W_nil ?_
        refine N_then_k ?_
        refine K_block ?_
        refine K_loop (σ := Nat × List Nat) [7, 22, 23, 24, 25, 26, 27, 28, 29, 30, 31, 32, 33, 34, 35, 36, 37, 38, 39, 40, 41, 42, 43, 44, 45, 46, 47, 48, 49, 50, 51, 52, 53, 54, 55, 56, 57, 58, 59, 60, 61, 62, 63, 64, 65, 66, 67, 68, 69, 70, 71, 72, 73, 74, 75, 76, 77, 78, 79, 80, 81]
            (fun q => [(7, .int .i64 q.1)])
            (fun q w => Hp w0 [] [(b15, .cells (intsV q.2).toArray 3)] w ∧ q.2.length = a.length + 4 ∧ valD q.2 = valD (a.take i) * valD b + a.getD i 0 * 65536 ^ i * valD (b.take q.1) ∧ (∀ k, q.2.getD k 0 ≤ 65535 + (3 * i + q.1) * 131072) ∧ q.1 ≤ 3)
            (fun q => 3 - q.1) ((0, L)) ?_ ?_ ?_
        · repeat' (first | exact sub_lst_nil (sub_nil _) | refine sub_lst rfl ?_ | (refine sub_lst_eq rfl ?_ ?_; · first | rfl | (simp; done) | (congr 1; omega)))
        · exact ⟨hp, hl, by rw [hv]; simp [valD], hbd, Nat.zero_le _⟩
        · intro ⟨j, L⟩ w hJ
          clear hp
          obtain ⟨hp, hl, hv, hbd, hle2⟩ := hJ
          simp only at hp hl hv hbd hle2
          change K _ _ _ _ (.lst ([(7, .int .i64 j)]) _) _
          rcases Nat.lt_or_ge j 3 with hlt2 | hge2
          all_goals (
           refine K_seq ?_
           refine K_seq ?_
           refine K_region ?_
           refine W_move rfl rfl ?_
           refine W_move rfl rfl ?_
           refine W_len_sl Tryd.underlying85 rfl rfl ?_
           first
             | (refine W_lss_t rfl rfl ?_ rfl ?_; (focus (omega)))
             | (refine W_lss_f rfl rfl ?_ rfl ?_; (focus (omega)))
             | (refine W_lss rfl rfl rfl ?_)
           refine W_nil ?_
           refine N_then_k ?_
           first
             | refine K_cond_d rfl (fun hc2 => ?_) (fun hc2 => ?_)
             | refine K_cond_n rfl (fun hc2 => ?_) (fun hc2 => ?_)
             | refine K_cond_nb rfl (fun hc2 => ?_) (fun hc2 => ?_)
             | refine K_cond_t rfl (fun hc2 => ?_) (fun hc2 => ?_)
           · try (exfalso; first | omega | (simp only [Bool.false_eq_true, reduceCtorEq] at hc2; done) | (refine absurd hc2 ?_; with_reducible assumption) | (refine absurd ?_ hc2; with_reducible assumption))
             all_goals (
              refine K_skip ?_
              refine N_then_k ?_
              refine K_seq ?_
              refine K_block ?_
              refine K_seq ?_
              have hbi := hbd (i + j)
              have hbi1 := hbd (i + j + 1)
              have hai : a.getD i 0 < 65536 := getD_small ha i
              have hbj : b.getD j 0 < 65536 := getD_small hb j
              have hab : a.getD i 0 * b.getD j 0 ≤ 65535 * 65535 := Nat.mul_le_mul (by omega) (by omega)
              have hs1 := addAt_same (L := L) (k := i + j) (x := a.getD i 0 * b.getD j 0) (by omega)
              have hl1 := addAt_length L (i + j) (a.getD i 0 * b.getD j 0)
              have hs2 := addAt_le (k := i + j) (x := a.getD i 0 * b.getD j 0) hbd (i + j + 1) (by omega)
              have hl1b : (L.set (i + j) (L.getD (i + j) 0 + a.getD i 0 * b.getD j 0)).length = L.length := List.length_set
              refine K_quiet_tail (A := [_, _, _, _, _, _, _, _, _, _, _, _, _, _, _, _, _, _, _, _, _]) (C := Hp _ _ _) hm hp hp.drew (by kernel_rfl) ?_
              clear hp
              refine Wq_val (fun w hp => R_move rfl) rfl ?_
              refine Wq_val (fun w hp => R_move rfl) rfl ?_
              refine Wq_val (fun w hp => R_move rfl) rfl ?_
              refine Wq_val (fun w hp => R_add rfl rfl (add_nat (by omega))) rfl ?_
              refine Wq_val (fun w hp => R_move rfl) rfl ?_
              refine Wq_val (fun w hp => R_move rfl) rfl ?_
              refine Wq_val (fun w hp => R_move rfl) rfl ?_
              refine Wq_val (fun w hp => R_add rfl rfl (add_nat (by omega))) rfl ?_
              refine Wq_val (fun w hp => R_indexAddr_sl Tryd.underlying85 sz3 rfl rfl ?_ ?_) rfl ?_
              (focus (omega))
              (focus (first | omega | (simp; done) | (simp; omega)))
              refine Wq_val (fun w hp => R_load_s Tryd.underlying3 rfl rfl (by exact hp.cellF List.mem_cons_self (show (intsV (L))[0 + ((i + j : Nat) : Int).toNat * 1]? = some (.int .i64 (((L).getD (i + j) 0 : Nat) : Int)) by exact intsV_get (by omega) (by omega)))) rfl ?_
              refine Wq_val (fun w hp => R_move rfl) rfl ?_
              refine Wq_val (fun w hp => R_move rfl) rfl ?_
              refine Wq_val (fun w hp => R_indexAddr_sl Tryd.underlying85 sz3 rfl rfl ?_ ?_) rfl ?_
              (focus (omega))
              (focus (first | omega | (simp; done) | (simp; omega)))
              refine Wq_val (fun w hp => R_load_s Tryd.underlying3 rfl rfl (by exact hp.cell_old0 (show w0.cell? ⟨ba, oa + (i : Int).toNat * 1, none⟩ = some (.int .i64 ((a.getD i 0 : Nat) : Int)) by rw [show oa + (i : Int).toNat * 1 = oa + i by omega]; exact hra.cell (intsV_get (L := a) (k := i) rfl (by omega))))) rfl ?_
              refine Wq_val (fun w hp => R_move rfl) rfl ?_
              refine Wq_val (fun w hp => R_move rfl) rfl ?_
              refine Wq_val (fun w hp => R_indexAddr_sl Tryd.underlying85 sz3 rfl rfl ?_ ?_) rfl ?_
              (focus (omega))
              (focus (first | omega | (simp; done) | (simp; omega)))
              refine Wq_val (fun w hp => R_load_s Tryd.underlying3 rfl rfl (by exact hp.cell_old0 (show w0.cell? ⟨bb, ob + (j : Int).toNat * 1, none⟩ = some (.int .i64 ((b.getD j 0 : Nat) : Int)) by rw [show ob + (j : Int).toNat * 1 = ob + j by omega]; exact hrb.cell (intsV_get (L := b) (k := j) rfl (by omega))))) rfl ?_
              refine Wq_val (fun w hp => R_mul rfl rfl (mul_nat (by omega))) rfl ?_
              refine Wq_val (fun w hp => R_add rfl rfl (add_nat (by omega))) rfl ?_
              refine Wq_val (fun w hp => R_indexAddr_sl Tryd.underlying85 sz3 rfl rfl ?_ ?_) rfl ?_
              (focus (omega))
              (focus (first | omega | (simp; done) | (simp; omega)))
              refine Wq_tail ?_
              intro w hp
              refine W_storeF (A := []) (cs := intsV ((L).set (i + j) (L.getD (i + j) 0 + a.getD i 0 * b.getD j 0))) hp rfl sz3 rfl rfl rfl rfl ?_ ?_ ?_ (setn (L := L) (k := i + j) (show 0 + ((i + j : Nat) : Int).toNat * 1 = i + j by omega) (by omega)) ?_
              · rw [intsV_length]; omega
              · omega
              · simp [Value.oneCell']
              clear hp; intro w hp
              refine W_nil ?_
              refine N_then_k ?_
              refine K_seq ?_
              refine K_quiet_tail (A := [_, _, _, _, _, _, _, _, _, _, _, _, _, _, _, _, _, _, _, _, _]) (C := Hp _ _ _) hm hp hp.drew (by kernel_rfl) ?_
              clear hp
              refine Wq_val (fun w hp => R_move rfl) rfl ?_
              refine Wq_val (fun w hp => R_move rfl) rfl ?_
              refine Wq_val (fun w hp => R_move rfl) rfl ?_
              refine Wq_val (fun w hp => R_add rfl rfl (add_nat (by omega))) rfl ?_
              refine Wq_val (fun w hp => R_add (r := ((i + j + 1 : Nat) : Int)) rfl rfl (by rw [wr_i64] <;> omega)) rfl ?_
              refine Wq_val (fun w hp => R_move rfl) rfl ?_
              refine Wq_val (fun w hp => R_move rfl) rfl ?_
              refine Wq_val (fun w hp => R_move rfl) rfl ?_
              refine Wq_val (fun w hp => R_add rfl rfl (add_nat (by omega))) rfl ?_
              refine Wq_val (fun w hp => R_add (r := ((i + j + 1 : Nat) : Int)) rfl rfl (by rw [wr_i64] <;> omega)) rfl ?_
              refine Wq_val (fun w hp => R_indexAddr_sl Tryd.underlying85 sz3 rfl rfl ?_ ?_) rfl ?_
              (focus (omega))
              (focus (first | omega | (simp; done) | (simp; omega)))
              refine Wq_val (fun w hp => R_load_s Tryd.underlying3 rfl rfl (by exact hp.cellF List.mem_cons_self (show (intsV ((addAt L (i + j) (a.getD i 0 * b.getD j 0))))[0 + ((i + j + 1 : Nat) : Int).toNat * 1]? = some (.int .i64 ((((addAt L (i + j) (a.getD i 0 * b.getD j 0))).getD (i + j + 1) 0 : Nat) : Int)) by exact intsV_get (by omega) (by omega)))) rfl ?_
              refine Wq_val (fun w hp => R_move rfl) rfl ?_
              refine Wq_val (fun w hp => R_move rfl) rfl ?_
              refine Wq_val (fun w hp => R_move rfl) rfl ?_
              refine Wq_val (fun w hp => R_add rfl rfl (add_nat (by omega))) rfl ?_
              refine Wq_val (fun w hp => R_indexAddr_sl Tryd.underlying85 sz3 rfl rfl ?_ ?_) rfl ?_
              (focus (omega))
              (focus (first | omega | (simp; done) | (simp; omega)))
              refine Wq_val (fun w hp => R_load_s Tryd.underlying3 rfl rfl (by exact hp.cellF List.mem_cons_self (show (intsV ((addAt L (i + j) (a.getD i 0 * b.getD j 0))))[0 + ((i + j : Nat) : Int).toNat * 1]? = some (.int .i64 ((((addAt L (i + j) (a.getD i 0 * b.getD j 0))).getD (i + j) 0 : Nat) : Int)) by exact intsV_get (by omega) (by omega)))) rfl ?_
              refine Wq_val (fun w hp => R_quo rfl rfl (by decide) (quo_nat (by omega))) rfl ?_
              refine Wq_val (fun w hp => R_add rfl rfl (add_nat (by omega))) rfl ?_
              refine Wq_val (fun w hp => R_indexAddr_sl Tryd.underlying85 sz3 rfl rfl ?_ ?_) rfl ?_
              (focus (omega))
              (focus (first | omega | (simp; done) | (simp; omega)))
              refine Wq_tail ?_
              intro w hp
              refine W_storeF (A := []) (cs := intsV (((addAt L (i + j) (a.getD i 0 * b.getD j 0))).set (i + j + 1) ((addAt L (i + j) (a.getD i 0 * b.getD j 0)).getD (i + j + 1) 0 + (addAt L (i + j) (a.getD i 0 * b.getD j 0)).getD (i + j) 0 / 65536))) hp rfl sz3 rfl rfl rfl rfl ?_ ?_ ?_ (setn (L := (addAt L (i + j) (a.getD i 0 * b.getD j 0))) (k := i + j + 1) (show 0 + ((i + j + 1 : Nat) : Int).toNat * 1 = i + j + 1 by omega) (by omega)) ?_
              · rw [intsV_length]; omega
              · omega
              · simp [Value.oneCell']
              clear hp; intro w hp
              refine W_nil ?_
              refine N_then_k ?_
              refine K_region ?_
              have hl2 : ((addAt L (i + j) (a.getD i 0 * b.getD j 0)).set (i + j + 1) ((addAt L (i + j) (a.getD i 0 * b.getD j 0)).getD (i + j + 1) 0 + (addAt L (i + j) (a.getD i 0 * b.getD j 0)).getD (i + j) 0 / 65536)).length = L.length := by rw [List.length_set]; exact hl1
              have hg2 : ((addAt L (i + j) (a.getD i 0 * b.getD j 0)).set (i + j + 1) ((addAt L (i + j) (a.getD i 0 * b.getD j 0)).getD (i + j + 1) 0 + (addAt L (i + j) (a.getD i 0 * b.getD j 0)).getD (i + j) 0 / 65536)).getD (i + j) 0 = (addAt L (i + j) (a.getD i 0 * b.getD j 0)).getD (i + j) 0 := getD_set_ne (by omega)
              refine W_move rfl rfl ?_
              refine W_move rfl rfl ?_
              refine W_move rfl rfl ?_
              refine W_add rfl rfl (add_nat (by omega)) rfl ?_
              refine W_move rfl rfl ?_
              refine W_move rfl rfl ?_
              refine W_move rfl rfl ?_
              refine W_add rfl rfl (add_nat (by omega)) rfl ?_
              refine W_indexAddr_sl Tryd.underlying85 sz3 rfl rfl ?_ ?_ rfl ?_
              (focus (omega))
              (focus (first | omega | (simp; done) | (simp; omega)))
              refine W_load_s Tryd.underlying3 rfl rfl (by exact hp.cellF List.mem_cons_self (show (intsV (((addAt L (i + j) (a.getD i 0 * b.getD j 0)).set (i + j + 1) ((addAt L (i + j) (a.getD i 0 * b.getD j 0)).getD (i + j + 1) 0 + (addAt L (i + j) (a.getD i 0 * b.getD j 0)).getD (i + j) 0 / 65536))))[0 + ((i + j : Nat) : Int).toNat * 1]? = some (.int .i64 (((((addAt L (i + j) (a.getD i 0 * b.getD j 0)).set (i + j + 1) ((addAt L (i + j) (a.getD i 0 * b.getD j 0)).getD (i + j + 1) 0 + (addAt L (i + j) (a.getD i 0 * b.getD j 0)).getD (i + j) 0 / 65536))).getD (i + j) 0 : Nat) : Int)) by exact intsV_get (by omega) (by omega))) rfl ?_
              rw [hg2]
              refine W_rem rfl rfl (by decide) (rem_nat _) rfl ?_
              refine W_indexAddr_sl Tryd.underlying85 sz3 rfl rfl ?_ ?_ rfl ?_
              (focus (omega))
              (focus (first | omega | (simp; done) | (simp; omega)))
              refine W_storeF (A := []) (cs := intsV ((((addAt L (i + j) (a.getD i 0 * b.getD j 0)).set (i + j + 1) ((addAt L (i + j) (a.getD i 0 * b.getD j 0)).getD (i + j + 1) 0 + (addAt L (i + j) (a.getD i 0 * b.getD j 0)).getD (i + j) 0 / 65536))).set (i + j) ((addAt L (i + j) (a.getD i 0 * b.getD j 0)).getD (i + j) 0 % 65536))) hp rfl sz3 rfl rfl rfl rfl ?_ ?_ ?_ (setn (L := ((addAt L (i + j) (a.getD i 0 * b.getD j 0)).set (i + j + 1) ((addAt L (i + j) (a.getD i 0 * b.getD j 0)).getD (i + j + 1) 0 + (addAt L (i + j) (a.getD i 0 * b.getD j 0)).getD (i + j) 0 / 65536))) (k := i + j) (show 0 + ((i + j : Nat) : Int).toNat * 1 = i + j by omega) (by omega)) ?_
              · rw [intsV_length]; omega
              · omega
              · simp [Value.oneCell']
              clear hp; intro w hp
              refine W_nil ?_
              refine N_block_normal ?_
              refine N_then_k ?_
              refine K_region ?_
              refine W_move rfl rfl ?_
              first
                | (refine W_add rfl rfl (wr_i64 ?_) rfl ?_; (focus (omega)))
                | (refine W_add rfl rfl rfl rfl ?_)
              refine W_assign rfl rfl ?_
              refine W_nil ?_
              have hst := times_step a b hl (by omega) hv (by omega)
              have hcb := carry_le2 (L := L) (k := i + j) (x := a.getD i 0 * b.getD j 0) (by omega) hbd (by omega) (by omega) (by omega)
              have hcl := carry_length (addAt L (i + j) (a.getD i 0 * b.getD j 0)) (i + j)
              replace hp : Hp w0 [] [(b15, .cells (intsV (carry (addAt L (i + j) (a.getD i 0 * b.getD j 0)) (i + j))).toArray 3)] w := hp
              refine N_again (j + 1, carry (addAt L (i + j) (a.getD i 0 * b.getD j 0)) (i + j)) (sub_end ?_ ?_) ⟨hp, by show (carry _ _).length = _; omega, hst, by intro k; have := hcb k; show (carry _ _).getD k 0 ≤ 65535 + (3 * i + (j + 1)) * 131072; omega, hlt2⟩ ?_
              · repeat' (first | exact sub_lst_nil (sub_nil _) | refine sub_lst rfl ?_ | (refine sub_lst_eq rfl ?_ ?_; · first | rfl | (simp; done) | (congr 1; omega)))
              · repeat' (first | exact sub_refl _ | exact sub_strip _ _ | refine sub_s_cons rfl ?_ | refine sub_s_lst rfl ?_ | refine sub_s_strip rfl ?_)
              · show _ < _; simp only; omega)
           · try (exfalso; first | omega | (simp only [Bool.false_eq_true, reduceCtorEq] at hc2; done) | (refine absurd hc2 ?_; with_reducible assumption) | (refine absurd ?_ hc2; with_reducible assumption))
             all_goals (
              refine K_exit ?_
              refine N_then_exit ?_
              refine N_then_exit ?_
              refine N_block_exit ?_
              refine N_block_normal ?_
              refine N_then_k ?_
              refine K_region ?_
              refine W_move rfl rfl ?_
              first
                | (refine W_add rfl rfl (wr_i64 ?_) rfl ?_; (focus (omega)))
                | (refine W_add rfl rfl rfl rfl ?_)
              refine W_assign rfl rfl ?_
              refine W_nil ?_
              obtain rfl : j = 3 := by omega
              refine N_again (i + 1, L) (sub_end ?_ ?_) ⟨hp, hl, by show valD L = valD (a.take (i + 1)) * valD b; rw [hv, List.take_of_length_le (show b.length ≤ 3 by omega), valD_step hlt, Nat.add_mul], by intro k; have := hbd k; show L.getD k 0 ≤ 65535 + (3 * (i + 1)) * 131072; omega, hlt⟩ ?_
              · repeat' (first | exact sub_lst_nil (sub_nil _) | refine sub_lst rfl ?_ | (refine sub_lst_eq rfl ?_ ?_; · first | rfl | (simp; done) | (congr 1; omega)))
              · repeat' (first | exact sub_refl _ | exact sub_strip _ _ | refine sub_s_cons rfl ?_ | refine sub_s_lst rfl ?_ | refine sub_s_strip rfl ?_)
              · show _ < _; simp only; omega)))
     · try (exfalso; first | omega | (simp only [Bool.false_eq_true, reduceCtorEq] at hc1; done) | (refine absurd hc1 ?_; with_reducible assumption) | (refine absurd ?_ hc1; with_reducible assumption))
       all_goals (
        refine K_exit ?_
        refine N_then_exit ?_
        refine N_then_exit ?_
        refine N_block_exit ?_
        refine N_then_k ?_
        refine K_seq ?_
        refine K_seq ?_
        refine K_region ?_
        refine W_assign rfl rfl ?_
        refine W_nil ?_
        refine N_then_k ?_
        refine K_block ?_
        refine K_loop (σ := Nat × List Nat) [8, 82, 83, 84, 85, 86, 87, 88, 89, 90, 91, 92, 93, 94, 95, 96, 97, 98, 99, 100, 101, 102, 103, 104, 105, 106, 107, 108, 109, 110, 111]
            (fun q => [(8, .int .i64 q.1)])
            (fun q w => Hp w0 [] [(b15, .cells (intsV q.2).toArray 3)] w ∧ q.2.length = a.length + 4 ∧ valD q.2 = valD a * valD b ∧ (∀ k, q.2.getD k 0 ≤ 65535 + (3 * a.length + q.1) * 131072) ∧ (∀ k, k < q.1 → q.2.getD k 0 < 65536) ∧ q.1 + 1 ≤ a.length + 4)
            (fun q => a.length + 4 - q.1) ((0, L)) ?_ ?_ ?_
        · repeat' (first | exact sub_lst_nil (sub_nil _) | refine sub_lst rfl ?_ | (refine sub_lst_eq rfl ?_ ?_; · first | rfl | (simp; done) | (congr 1; omega)))
        · obtain rfl : i = a.length := by omega
          exact ⟨hp, hl, by rw [hv, List.take_of_length_le (Nat.le_refl _)], hbd, fun k hk => absurd hk (Nat.not_lt_zero _), by omega⟩
        · intro ⟨i, L⟩ w hJ
          clear hp
          obtain ⟨hp, hl, hv, hbd, hsm, hle3⟩ := hJ
          simp only at hp hl hv hbd hsm hle3
          change K _ _ _ _ (.lst ([(8, .int .i64 i)]) _) _
          rcases Nat.lt_or_ge (i + 1) (a.length + 4) with hlt3 | hge3
          all_goals (
           refine K_seq ?_
           refine K_seq ?_
           refine K_region ?_
           refine W_move rfl rfl ?_
           first
             | (refine W_add rfl rfl (wr_i64 ?_) rfl ?_; (focus (omega)))
             | (refine W_add rfl rfl rfl rfl ?_)
           refine W_move rfl rfl ?_
           refine W_len_sl Tryd.underlying85 rfl rfl ?_
           first
             | (refine W_lss_t rfl rfl ?_ rfl ?_; (focus (omega)))
             | (refine W_lss_f rfl rfl ?_ rfl ?_; (focus (omega)))
             | (refine W_lss rfl rfl rfl ?_)
           refine W_nil ?_
           refine N_then_k ?_
           first
             | refine K_cond_d rfl (fun hc3 => ?_) (fun hc3 => ?_)
             | refine K_cond_n rfl (fun hc3 => ?_) (fun hc3 => ?_)
             | refine K_cond_nb rfl (fun hc3 => ?_) (fun hc3 => ?_)
             | refine K_cond_t rfl (fun hc3 => ?_) (fun hc3 => ?_)
           · try (exfalso; first | omega | (simp only [Bool.false_eq_true, reduceCtorEq] at hc3; done) | (refine absurd hc3 ?_; with_reducible assumption) | (refine absurd ?_ hc3; with_reducible assumption))
             all_goals (
              refine K_skip ?_
              refine N_then_k ?_
              refine K_seq ?_
              refine K_block ?_
              refine K_seq ?_
              have hbi := hbd i
              have hbi1 := hbd (i + 1)
              refine K_quiet_tail (A := [_, _, _, _, _, _, _, _, _, _, _, _, _, _, _]) (C := Hp _ _ _) hm hp hp.drew (by kernel_rfl) ?_
              clear hp
              refine Wq_val (fun w hp => R_move rfl) rfl ?_
              refine Wq_val (fun w hp => R_move rfl) rfl ?_
              refine Wq_val (fun w hp => R_add (r := ((i + 1 : Nat) : Int)) rfl rfl (by rw [wr_i64] <;> omega)) rfl ?_
              refine Wq_val (fun w hp => R_move rfl) rfl ?_
              refine Wq_val (fun w hp => R_move rfl) rfl ?_
              refine Wq_val (fun w hp => R_add (r := ((i + 1 : Nat) : Int)) rfl rfl (by rw [wr_i64] <;> omega)) rfl ?_
              refine Wq_val (fun w hp => R_indexAddr_sl Tryd.underlying85 sz3 rfl rfl ?_ ?_) rfl ?_
              (focus (omega))
              (focus (first | omega | (simp; done) | (simp; omega)))
              refine Wq_val (fun w hp => R_load_s Tryd.underlying3 rfl rfl (by exact hp.cellF List.mem_cons_self (show (intsV (L))[0 + ((i + 1 : Nat) : Int).toNat * 1]? = some (.int .i64 (((L).getD (i + 1) 0 : Nat) : Int)) by exact intsV_get (by omega) (by omega)))) rfl ?_
              refine Wq_val (fun w hp => R_move rfl) rfl ?_
              refine Wq_val (fun w hp => R_move rfl) rfl ?_
              refine Wq_val (fun w hp => R_indexAddr_sl Tryd.underlying85 sz3 rfl rfl ?_ ?_) rfl ?_
              (focus (omega))
              (focus (first | omega | (simp; done) | (simp; omega)))
              refine Wq_val (fun w hp => R_load_s Tryd.underlying3 rfl rfl (by exact hp.cellF List.mem_cons_self (show (intsV (L))[0 + (i : Int).toNat * 1]? = some (.int .i64 (((L).getD (i) 0 : Nat) : Int)) by exact intsV_get (by omega) (by omega)))) rfl ?_
              refine Wq_val (fun w hp => R_quo rfl rfl (by decide) (quo_nat (by omega))) rfl ?_
              refine Wq_val (fun w hp => R_add rfl rfl (add_nat (by omega))) rfl ?_
              refine Wq_val (fun w hp => R_indexAddr_sl Tryd.underlying85 sz3 rfl rfl ?_ ?_) rfl ?_
              (focus (omega))
              (focus (first | omega | (simp; done) | (simp; omega)))
              refine Wq_tail ?_
              intro w hp
              refine W_storeF (A := []) (cs := intsV ((L).set (i + 1) (L.getD (i + 1) 0 + L.getD i 0 / 65536))) hp rfl sz3 rfl rfl rfl rfl ?_ ?_ ?_ (setn (L := L) (k := i + 1) (show 0 + ((i + 1 : Nat) : Int).toNat * 1 = i + 1 by omega) (by omega)) ?_
              · rw [intsV_length]; omega
              · omega
              · simp [Value.oneCell']
              clear hp; intro w hp
              refine W_nil ?_
              refine N_then_k ?_
              refine K_region ?_
              have hg3 : (L.set (i + 1) (L.getD (i + 1) 0 + L.getD i 0 / 65536)).getD i 0 = L.getD i 0 := getD_set_ne (by omega)
              have hl3 : (L.set (i + 1) (L.getD (i + 1) 0 + L.getD i 0 / 65536)).length = L.length := List.length_set
              refine W_move rfl rfl ?_
              refine W_move rfl rfl ?_
              refine W_move rfl rfl ?_
              refine W_move rfl rfl ?_
              refine W_indexAddr_sl Tryd.underlying85 sz3 rfl rfl ?_ ?_ rfl ?_
              (focus (omega))
              (focus (first | omega | (simp; done) | (simp; omega)))
              refine W_load_s Tryd.underlying3 rfl rfl (by exact hp.cellF List.mem_cons_self (show (intsV (L.set (i + 1) (L.getD (i + 1) 0 + L.getD i 0 / 65536)))[0 + (i : Int).toNat * 1]? = some (.int .i64 (((L.set (i + 1) (L.getD (i + 1) 0 + L.getD i 0 / 65536)).getD (i) 0 : Nat) : Int)) by exact intsV_get (by omega) (by omega))) rfl ?_
              rw [hg3]
              refine W_rem rfl rfl (by decide) (rem_nat _) rfl ?_
              refine W_indexAddr_sl Tryd.underlying85 sz3 rfl rfl ?_ ?_ rfl ?_
              (focus (omega))
              (focus (first | omega | (simp; done) | (simp; omega)))
              refine W_storeF (A := []) (cs := intsV ((L.set (i + 1) (L.getD (i + 1) 0 + L.getD i 0 / 65536)).set (i) (L.getD i 0 % 65536))) hp rfl sz3 rfl rfl rfl rfl ?_ ?_ ?_ (setn (L := L.set (i + 1) (L.getD (i + 1) 0 + L.getD i 0 / 65536)) (k := i) (show 0 + (i : Int).toNat * 1 = i by omega) (by omega)) ?_
              · rw [intsV_length]; omega
              · omega
              · simp [Value.oneCell']
              clear hp; intro w hp
              refine W_nil ?_
              refine N_block_normal ?_
              refine N_then_k ?_
              refine K_region ?_
              refine W_move rfl rfl ?_
              first
                | (refine W_add rfl rfl (wr_i64 ?_) rfl ?_; (focus (omega)))
                | (refine W_add rfl rfl rfl rfl ?_)
              refine W_assign rfl rfl ?_
              refine W_nil ?_
              have hcb := carry_le (L := L) (k := i) hbd (by omega) (by omega)
              have hcl := carry_length L i
              have hcv := carry_val (L := L) (k := i) (by omega)
              replace hp : Hp w0 [] [(b15, .cells (intsV (carry L i)).toArray 3)] w := hp
              refine N_again (i + 1, carry L i) (sub_end ?_ ?_) ⟨hp, by show (carry _ _).length = _; omega, hcv.trans hv, by intro k; have := hcb k; show (carry _ _).getD k 0 ≤ 65535 + (3 * a.length + (i + 1)) * 131072; omega, carry_small hsm, by show i + 1 + 1 ≤ _; omega⟩ ?_
              · repeat' (first | exact sub_lst_nil (sub_nil _) | refine sub_lst rfl ?_ | (refine sub_lst_eq rfl ?_ ?_; · first | rfl | (simp; done) | (congr 1; omega)))
              · repeat' (first | exact sub_refl _ | exact sub_strip _ _ | refine sub_s_cons rfl ?_ | refine sub_s_lst rfl ?_ | refine sub_s_strip rfl ?_)
              · show _ < _; simp only; omega)
           · try (exfalso; first | omega | (simp only [Bool.false_eq_true, reduceCtorEq] at hc3; done) | (refine absurd hc3 ?_; with_reducible assumption) | (refine absurd ?_ hc3; with_reducible assumption))
             all_goals (
              refine K_exit ?_
              refine N_then_exit ?_
              refine N_then_exit ?_
              refine N_block_exit ?_
              refine N_then_k ?_
              refine K_seq ?_
              refine K_region ?_
              refine W_move rfl rfl ?_
              refine W_assign rfl rfl ?_
              refine W_nil ?_
              refine N_then_k ?_
              refine K_ret ?_
              refine N_done1 (.inr rfl) rfl rfl ?_
              have he : L = digs (a.length + 4) (valD a * valD b) := times_end (m := a.length + 3) hl hv (by rw [Nat.pow_add]; rw [hbl] at hVb; exact Nat.mul_lt_mul'' hVa hVb) (fun k hk => hsm k (by omega))
              rw [he] at hp
              have hos := OS.lit (e := 3) (sz := 1) (b := b15) (k := (digs (a.length + 4) (valD a * valD b)).length) (cs := intsV (digs (a.length + 4) (valD a * valD b))) (by rw [intsV_length]; omega) (by rw [digs_length]; unfold maxLen; omega)
              exact ⟨_, rfl, [_], hp, by rw [digs_length] at hos; simpa [OSi, digs_length] using hos⟩))))

end Go.Proofs.YtbdmaiipohfnaaaDoor
