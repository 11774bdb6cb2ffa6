/-
  Package clean and its reference implementation, walked: Unquote, and the reference.
-/
import Derived.Test.YtaeelnggnpeihaaCln
namespace Go.Proofs.Ytaeelnggnpeihaa
open Go.Sx Go.RowKit
set_option linter.unusedVariables false
set_option linter.unusedSimpArgs false
set_option maxRecDepth 100000

theorem unquote_short {s : List UInt8} (h : s.length < 2) : unquote s = none := by
  match s, h with
  | [], _ => rfl
  | [c], _ => simp [unquote, unq]
  | _ :: _ :: _, h => simp at h; omega
theorem unquote_head {s : List UInt8} {c : UInt8} (h : s[0]? = some c) (hc : c.toNat ≠ 34) : unquote s = none := by
  cases s with
  | nil => rfl
  | cons x r => simp at h; subst h; simp only [unquote]; rw [if_neg (fun e => by subst e; exact hc rfl)]
theorem unquote_body {s : List UInt8} {c : UInt8} (h : s[0]? = some c) (hc : c.toNat = 34) : unquote s = unq (s.drop 1) := by
  cases s with
  | nil => simp at h
  | cons x r => simp at h; subst h; simp only [unquote]; rw [if_pos (UInt8.toNat_inj.1 hc)]; rfl
theorem s0_cases (s : List UInt8) : s.length < 2 ∨ (∃ c, s[0]? = some c ∧ c.toNat ≠ 34 ∧ 2 ≤ s.length) ∨ (∃ c, s[0]? = some c ∧ c.toNat = 34 ∧ 2 ≤ s.length) := by
  rcases Nat.lt_or_ge s.length 2 with h | h
  · exact .inl h
  · obtain ⟨c, hc⟩ : ∃ c, s[0]? = some c := ⟨_, List.getElem?_eq_getElem (by omega)⟩
    by_cases e : c.toNat = 34
    · exact .inr (.inr ⟨c, hc, e, h⟩)
    · exact .inr (.inl ⟨c, hc, e, h⟩)
theorem at_or' (s : List UInt8) (k : Nat) : s.length ≤ k ∨ ∃ c, s[k]? = some c ∧ k < s.length := by
  rcases Nat.lt_or_ge k s.length with h | h
  · exact .inr ⟨_, List.getElem?_eq_getElem h, h⟩
  · exact .inl h
theorem drop_at' {s : List UInt8} {k : Nat} {c : UInt8} (h : s[k]? = some c) : s.drop k = c :: s.drop (k + 1) := by
  have hk := (List.getElem?_eq_some_iff.1 h).1
  rw [List.drop_eq_getElem_cons hk, (List.getElem?_eq_some_iff.1 h).2]
theorem unq_at_end {s : List UInt8} {i : Nat} (h : s.length ≤ i) : unq (s.drop i) = none := by rw [List.drop_of_length_le h]; rfl
theorem unq_at_34 {s : List UInt8} {i : Nat} {c : UInt8} (h : s[i]? = some c) (hc : c.toNat = 34) : unq (s.drop i) = if i + 1 = s.length then some [] else none := by
  obtain rfl : c = 34 := UInt8.toNat_inj.1 hc
  have hk := (List.getElem?_eq_some_iff.1 h).1
  rw [drop_at' h]
  split
  · rw [List.drop_of_length_le (by omega)]; rfl
  · rcases at_or' s (i + 1) with h2 | ⟨d, hd, _⟩
    · omega
    · rw [drop_at' hd]; rfl
theorem unq_at_92_end {s : List UInt8} {i : Nat} {c : UInt8} (h : s[i]? = some c) (hc : c.toNat = 92) (hl : s.length ≤ i + 1) : unq (s.drop i) = none := by
  obtain rfl : c = 92 := UInt8.toNat_inj.1 hc
  rw [drop_at' h, List.drop_of_length_le hl]; rfl
theorem unq_at_92 {s : List UInt8} {i : Nat} {c d : UInt8} (h : s[i]? = some c) (hc : c.toNat = 92) (hd : s[i + 1]? = some d) : unq (s.drop i) = if SpecialP d.toNat then (unq (s.drop (i + 1 + 1))).map (d :: ·) else none := by
  obtain rfl : c = 92 := UInt8.toNat_inj.1 hc
  rw [drop_at' h, drop_at' hd, unq, if_neg (by decide), if_pos rfl]
theorem unq_at {s : List UInt8} {i : Nat} {c : UInt8} (h : s[i]? = some c) (h1 : ¬ c.toNat = 34) (h2 : ¬ c.toNat = 92) : unq (s.drop i) = if FieldP c.toNat then (unq (s.drop (i + 1))).map (c :: ·) else none := by
  have e1 : c ≠ 34 := fun e => by subst e; exact h1 rfl
  have e2 : c ≠ 92 := fun e => by subst e; exact h2 rfl
  rw [drop_at' h]
  rcases at_or' s (i + 1) with h3 | ⟨d, hd, _⟩
  · rw [List.drop_of_length_le h3]; simp [unq, e1]
  · rw [drop_at' hd, unq, if_neg e1, if_neg e2]
theorem map_snoc {o : Option (List UInt8)} {a : List UInt8} {d : UInt8} : (o.map (d :: ·)).map (a ++ ·) = o.map ((a ++ [d]) ++ ·) := by cases o <;> simp

theorem unquote_spec (s : List UInt8) (hl : s.length ≤ 1000000) : PureF Try.prog 16 [.string ⟨s.toArray⟩] (.tuple #[.string ⟨((unquote s).getD []).toArray⟩, .bool (unquote s).isSome]) := by
  refine PureF.intro go16 Try.func16 rfl rfl fun w0 hp => ?_
  refine K_seq ?_
  refine K_region ?_
  refine W_assign rfl rfl ?_
  refine W_assign rfl rfl ?_
  refine W_nil ?_
  refine N_then_k ?_
  refine K_scope ?_
  refine K_seq ?_
  refine K_seq ?_
  refine K_region ?_
  rcases s0_cases s with hsh | ⟨c0, h0, hne, h2⟩ | ⟨c0, h0, he, h2⟩
  all_goals (
   refine W_move rfl rfl ?_
   refine W_len_s Try.underlying9 rfl rfl ?_
   first
     | (refine W_lss_t rfl rfl ?_ rfl ?_; (focus (omega)))
     | (refine W_lss_f rfl rfl ?_ rfl ?_; (focus (omega)))
     | (refine W_lss rfl rfl rfl ?_)
   refine W_move rfl rfl ?_
   first
     | refine W_guard_lit_t rfl ?_
     | refine W_guard_lit_f rfl ?_
     | refine W_guard_lit_u rfl ?_
     | refine W_guard_split_d rfl rfl rfl (fun hg1 => ?_) (fun hg1 => ?_)
     | refine W_guard_split_n rfl rfl rfl (fun hg1 => ?_) (fun hg1 => ?_)
     | refine W_guard_split_nb rfl rfl rfl (fun hg1 => ?_) (fun hg1 => ?_)
     | refine W_guard_split rfl rfl rfl (fun hg1 => ?_) (fun hg1 => ?_)
   all_goals try (exfalso; first | omega | (simp only [Bool.false_eq_true, reduceCtorEq] at hg1; done) | (refine absurd hg1 ?_; with_reducible assumption) | (refine absurd ?_ hg1; with_reducible assumption))
   all_goals (
    first
      | (iterate 3 refine W_guard_no rfl rfl rfl ?_)
      | (iterate 3 refine W_guard_un rfl rfl ?_)
      | (refine W_guard_yes rfl ?_
         refine W_move rfl rfl ?_
         refine W_guard_yes rfl ?_
         refine W_index_s Try.underlying9 rfl rfl ?_ (by first | with_reducible assumption | assumption | exact rfl | exact idx_getD (by first | omega | (simp; omega))) rfl ?_
         (focus (omega))
         refine W_guard_yes rfl ?_
         first
           | (refine W_neq_t rfl rfl ?_ rfl ?_; (focus (omega)))
           | (refine W_neq_f rfl rfl ?_ rfl ?_; (focus (omega)))
           | (refine W_neq rfl rfl rfl ?_))
    first
      | (refine W_pick_t rfl rfl rfl ?_)
      | (refine W_pick_f rfl rfl rfl ?_)
      | (refine W_pick_b rfl rfl rfl rfl ?_)
    refine W_nil ?_
    refine N_then_k ?_
    first
      | refine K_cond_d rfl (fun hc2 => ?_) (fun hc2 => ?_)
      | refine K_cond_n rfl (fun hc2 => ?_) (fun hc2 => ?_)
      | refine K_cond_nb rfl (fun hc2 => ?_) (fun hc2 => ?_)
      | refine K_cond_t rfl (fun hc2 => ?_) (fun hc2 => ?_)
    · try (exfalso; first | omega | (simp only [Bool.false_eq_true, reduceCtorEq] at hc2; done) | (refine absurd hc2 ?_; with_reducible assumption) | (refine absurd ?_ hc2; with_reducible assumption))
      all_goals (
       refine K_seq ?_
       refine K_region ?_
       have hn : unquote s = none := by first | exact unquote_short hsh | exact unquote_head h0 hne
       refine W_assign rfl rfl ?_
       refine W_assign rfl rfl ?_
       refine W_nil ?_
       refine N_then_k ?_
       refine K_ret ?_
       refine N_then_ret ?_
       refine N_scope_ret ?_
       refine N_done2 (.inr rfl) rfl rfl rfl ?_
       refine ⟨_, rfl, ?_, hp.nil⟩
       first
         | (rw [hn]; rfl)
         | (rw [hy]; rfl))
    · try (exfalso; first | omega | (simp only [Bool.false_eq_true, reduceCtorEq] at hc2; done) | (refine absurd hc2 ?_; with_reducible assumption) | (refine absurd ?_ hc2; with_reducible assumption))
      all_goals (
       refine K_skip ?_
       refine N_then_k ?_
       refine K_seq ?_
       refine K_region ?_
       have hub := unquote_body h0 he
       refine W_assign rfl rfl ?_
       refine W_nil ?_
       refine N_then_k ?_
       refine K_seq ?_
       refine K_region ?_
       refine W_assign rfl rfl ?_
       refine W_nil ?_
       refine N_then_k ?_
       refine K_seq ?_
       refine K_label ?_
       refine N_then_k ?_
       refine K_seq ?_
       refine K_block ?_
       refine K_loop (σ := Nat × List UInt8 × Value × Heap) [2, 3, 4, 5, 6, 15, 16, 17, 18, 19, 20, 21, 22, 23, 24, 25, 26, 27, 28, 29, 30, 31, 32, 33, 34, 35, 36, 37, 38, 39, 40, 41, 42, 43, 44, 45, 46, 47, 48, 49, 50, 51, 52, 53]
           (fun q => [(5, .int .i64 q.1), (4, q.2.2.1)])
           (fun q w => OSb 5 q.2.2.1 q.2.1 q.2.2.2 ∧ Hp w0 [] q.2.2.2 w ∧ q.1 ≤ s.length ∧ q.2.1.length ≤ q.1 ∧ unq (s.drop 1) = (unq (s.drop q.1)).map (q.2.1 ++ ·))
           (fun q => s.length - q.1) ((1, [], .slice none 0 0, [])) ?_ ?_ ?_
       · repeat' (first | exact sub_lst_nil (sub_nil _) | refine sub_lst rfl ?_ | (refine sub_lst_eq rfl ?_ ?_; · first | rfl | (simp; done) | (congr 1; omega)))
       · exact ⟨OSb.nil, hp, by show 1 ≤ _; omega, by simp, by simp⟩
       · intro ⟨i, out, v, Hs⟩ w hJ
         clear hp
         obtain ⟨hos, hp, hle, hol, hj⟩ := hJ
         simp only at hos hp hle hol hj
         obtain ⟨Av, cv, rfl⟩ := hos.form
         rcases Nat.lt_or_ge i s.length with hlt | hge
         all_goals (
          refine K_seq ?_
          refine K_seq ?_
          refine K_region ?_
          refine W_move rfl rfl ?_
          refine W_move rfl rfl ?_
          refine W_len_s Try.underlying9 rfl rfl ?_
          first
            | (refine W_lss_t rfl rfl ?_ rfl ?_; (focus (omega)))
            | (refine W_lss_f rfl rfl ?_ rfl ?_; (focus (omega)))
            | (refine W_lss rfl rfl rfl ?_)
          refine W_nil ?_
          refine N_then_k ?_
          first
            | refine K_cond_d rfl (fun hc3 => ?_) (fun hc3 => ?_)
            | refine K_cond_n rfl (fun hc3 => ?_) (fun hc3 => ?_)
            | refine K_cond_nb rfl (fun hc3 => ?_) (fun hc3 => ?_)
            | refine K_cond_t rfl (fun hc3 => ?_) (fun hc3 => ?_)
          · try (exfalso; first | omega | (simp only [Bool.false_eq_true, reduceCtorEq] at hc3; done) | (refine absurd hc3 ?_; with_reducible assumption) | (refine absurd ?_ hc3; with_reducible assumption))
            all_goals (
             refine K_skip ?_
             refine N_then_k ?_
             refine K_seq ?_
             refine K_block ?_
             refine K_seq ?_
             refine K_region ?_
             obtain ⟨c, hc⟩ : ∃ c, s[i]? = some c := ⟨_, List.getElem?_eq_getElem hlt⟩
             have hu := c.toNat_lt
             refine W_move rfl rfl ?_
             refine W_move rfl rfl ?_
             refine W_index_s Try.underlying9 rfl rfl ?_ (by first | with_reducible assumption | assumption | exact rfl | exact idx_getD (by first | omega | (simp; omega))) rfl ?_
             (focus (omega))
             refine W_assign rfl rfl ?_
             refine W_nil ?_
             refine N_then_k ?_
             refine K_mid (σ := Nat × UInt8) [2, 3, 5, 6, 24, 25, 26, 27, 28, 29, 30, 31, 32, 33, 34, 35, 36, 37, 38, 39, 40, 41, 42, 43, 44, 45, 46, 47, 48, 49]
                 (fun q => [(5, .int .i64 q.1), (6, .int .u8 (q.2.toNat : Int))])
                 (fun q w => Hp w0 [] Hs w ∧ i ≤ q.1 ∧ q.1 < s.length ∧ unq (s.drop 1) = (unq (s.drop (q.1 + 1))).map ((out ++ [q.2]) ++ ·)) ?_ ?_
             · refine K_block ?_
               refine K_seq ?_
               refine K_region ?_
               refine W_move rfl rfl ?_
               first
                 | (refine W_eql_t rfl rfl ?_ rfl ?_; (focus (omega)))
                 | (refine W_eql_f rfl rfl ?_ rfl ?_; (focus (omega)))
                 | (refine W_eql rfl rfl rfl ?_)
               refine W_assign rfl rfl ?_
               refine W_nil ?_
               refine N_then_k ?_
               first
                 | refine K_cond_d rfl (fun hc4 => ?_) (fun hc4 => ?_)
                 | refine K_cond_n rfl (fun hc4 => ?_) (fun hc4 => ?_)
                 | refine K_cond_nb rfl (fun hc4 => ?_) (fun hc4 => ?_)
                 | refine K_cond_t rfl (fun hc4 => ?_) (fun hc4 => ?_)
               · try (exfalso; first | omega | (simp only [Bool.false_eq_true, reduceCtorEq] at hc4; done) | (refine absurd hc4 ?_; with_reducible assumption) | (refine absurd ?_ hc4; with_reducible assumption))
                 all_goals (
                  refine K_exit ?_
                  refine N_block_other rfl ?_
                  refine N_then_exit ?_
                  refine N_block_other rfl ?_
                  refine N_then_exit ?_
                  refine N_then_exit ?_
                  refine N_block_exit ?_
                  refine N_then_k ?_
                  refine K_seq ?_
                  refine K_seq ?_
                  refine K_region ?_
                  refine W_move rfl rfl ?_
                  refine W_move rfl rfl ?_
                  refine W_len_s Try.underlying9 rfl rfl ?_
                  first
                    | (refine W_sub rfl rfl (wr_i64 ?_) rfl ?_; (focus (omega)))
                    | (refine W_sub rfl rfl rfl rfl ?_)
                  first
                    | (refine W_neq_t rfl rfl ?_ rfl ?_; (focus (omega)))
                    | (refine W_neq_f rfl rfl ?_ rfl ?_; (focus (omega)))
                    | (refine W_neq rfl rfl rfl ?_)
                  refine W_nil ?_
                  refine N_then_k ?_
                  first
                    | refine K_cond_d rfl (fun hc5 => ?_) (fun hc5 => ?_)
                    | refine K_cond_n rfl (fun hc5 => ?_) (fun hc5 => ?_)
                    | refine K_cond_nb rfl (fun hc5 => ?_) (fun hc5 => ?_)
                    | refine K_cond_t rfl (fun hc5 => ?_) (fun hc5 => ?_)
                  · try (exfalso; first | omega | (simp only [Bool.false_eq_true, reduceCtorEq] at hc5; done) | (refine absurd hc5 ?_; with_reducible assumption) | (refine absurd ?_ hc5; with_reducible assumption))
                    all_goals (
                     refine K_seq ?_
                     refine K_region ?_
                     have hn : unquote s = none := by
                       rw [hub, hj]
                       first
                         | (rw [unq_at_end hge]; rfl)
                         | (rw [unq_at_34 hc (by omega), if_neg (by omega)]; rfl)
                     refine W_assign rfl rfl ?_
                     refine W_assign rfl rfl ?_
                     refine W_nil ?_
                     refine N_then_k ?_
                     refine K_ret ?_
                     refine N_then_ret ?_
                     refine N_scope_ret ?_
                     refine N_done2 (.inr rfl) rfl rfl rfl ?_
                     refine ⟨_, rfl, ?_, hp.nil⟩
                     first
                       | (rw [hn]; rfl)
                       | (rw [hy]; rfl))
                  · try (exfalso; first | omega | (simp only [Bool.false_eq_true, reduceCtorEq] at hc5; done) | (refine absurd hc5 ?_; with_reducible assumption) | (refine absurd ?_ hc5; with_reducible assumption))
                    all_goals (
                     refine K_skip ?_
                     refine N_then_k ?_
                     refine K_seq ?_
                     refine K_region ?_
                     have hy : unquote s = some out := by
                       rw [hub, hj, unq_at_34 hc (by omega), if_pos (by omega)]; simp
                     refine W_move rfl rfl ?_
                     refine W_conv_bs (a := out) Try.underlying32 Try.underlying5 Try.underlying9 rfl (OS.rd (A := []) (B := []) hos (by simpa using hp)) rfl rfl ?_
                     refine W_assign rfl rfl ?_
                     refine W_assign rfl rfl ?_
                     refine W_nil ?_
                     refine N_then_k ?_
                     refine K_ret ?_
                     refine N_scope_ret ?_
                     refine N_done2 (.inr rfl) rfl rfl rfl ?_
                     refine ⟨_, rfl, ?_, hp.nil⟩
                     first
                       | (rw [hn]; rfl)
                       | (rw [hy]; rfl)))
               · try (exfalso; first | omega | (simp only [Bool.false_eq_true, reduceCtorEq] at hc4; done) | (refine absurd hc4 ?_; with_reducible assumption) | (refine absurd ?_ hc4; with_reducible assumption))
                 all_goals (
                  refine K_seq ?_
                  refine K_region ?_
                  refine W_move rfl rfl ?_
                  first
                    | (refine W_eql_t rfl rfl ?_ rfl ?_; (focus (omega)))
                    | (refine W_eql_f rfl rfl ?_ rfl ?_; (focus (omega)))
                    | (refine W_eql rfl rfl rfl ?_)
                  refine W_assign rfl rfl ?_
                  refine W_nil ?_
                  refine N_then_k ?_
                  first
                    | refine K_cond_d rfl (fun hc6 => ?_) (fun hc6 => ?_)
                    | refine K_cond_n rfl (fun hc6 => ?_) (fun hc6 => ?_)
                    | refine K_cond_nb rfl (fun hc6 => ?_) (fun hc6 => ?_)
                    | refine K_cond_t rfl (fun hc6 => ?_) (fun hc6 => ?_)
                  · try (exfalso; first | omega | (simp only [Bool.false_eq_true, reduceCtorEq] at hc6; done) | (refine absurd hc6 ?_; with_reducible assumption) | (refine absurd ?_ hc6; with_reducible assumption))
                    all_goals (
                     refine K_seq ?_
                     refine K_region ?_
                     refine W_move rfl rfl ?_
                     first
                       | (refine W_add rfl rfl (wr_i64 ?_) rfl ?_; (focus (omega)))
                       | (refine W_add rfl rfl rfl rfl ?_)
                     refine W_assign rfl rfl ?_
                     refine W_nil ?_
                     refine N_then_k ?_
                     refine K_seq ?_
                     refine K_seq ?_
                     refine K_region ?_
                     rcases at_or' s (i + 1) with hge2 | ⟨d, hd, hlt2⟩
                     all_goals (
                      refine W_move rfl rfl ?_
                      refine W_move rfl rfl ?_
                      refine W_len_s Try.underlying9 rfl rfl ?_
                      first
                        | (refine W_eql_t rfl rfl ?_ rfl ?_; (focus (omega)))
                        | (refine W_eql_f rfl rfl ?_ rfl ?_; (focus (omega)))
                        | (refine W_eql rfl rfl rfl ?_)
                      refine W_move rfl rfl ?_
                      first
                        | refine W_guard_lit_t rfl ?_
                        | refine W_guard_lit_f rfl ?_
                        | refine W_guard_lit_u rfl ?_
                        | refine W_guard_split_d rfl rfl rfl (fun hg7 => ?_) (fun hg7 => ?_)
                        | refine W_guard_split_n rfl rfl rfl (fun hg7 => ?_) (fun hg7 => ?_)
                        | refine W_guard_split_nb rfl rfl rfl (fun hg7 => ?_) (fun hg7 => ?_)
                        | refine W_guard_split rfl rfl rfl (fun hg7 => ?_) (fun hg7 => ?_)
                      all_goals try (exfalso; first | omega | (simp only [Bool.false_eq_true, reduceCtorEq] at hg7; done) | (refine absurd hg7 ?_; with_reducible assumption) | (refine absurd ?_ hg7; with_reducible assumption))
                      all_goals (
                       first
                         | (iterate 5 refine W_guard_no rfl rfl rfl ?_)
                         | (iterate 5 refine W_guard_un rfl rfl ?_)
                         | (refine W_guard_yes rfl ?_
                            refine W_move rfl rfl ?_
                            refine W_guard_yes rfl ?_
                            refine W_move rfl rfl ?_
                            refine W_guard_yes rfl ?_
                            refine W_index_s Try.underlying9 rfl rfl ?_ (by first | with_reducible assumption | assumption | exact rfl | exact idx_getD (by first | omega | (simp; omega))) rfl ?_
                            (focus (omega))
                            refine W_guard_yes rfl ?_
                            refine W_pcall hp rfl (special_spec d) rfl ?_
                            clear hp; intro w hp
                            refine W_guard_yes rfl ?_
                            first
                              | (refine W_not_t rfl rfl ?_)
                              | (refine W_not_f rfl rfl ?_)
                              | (refine W_not rfl rfl ?_))
                       first
                         | (refine W_pick_t rfl rfl rfl ?_)
                         | (refine W_pick_f rfl rfl rfl ?_)
                         | (refine W_pick_b rfl rfl rfl rfl ?_)
                       refine W_nil ?_
                       refine N_then_k ?_
                       first
                         | refine K_cond_d rfl (fun hc8 => ?_) (fun hc8 => ?_)
                         | refine K_cond_n rfl (fun hc8 => ?_) (fun hc8 => ?_)
                         | refine K_cond_nb rfl (fun hc8 => ?_) (fun hc8 => ?_)
                         | refine K_cond_t rfl (fun hc8 => ?_) (fun hc8 => ?_)
                       · try (exfalso; first | omega | (simp only [Bool.false_eq_true, reduceCtorEq] at hc8; done) | (refine absurd hc8 ?_; with_reducible assumption) | (refine absurd ?_ hc8; with_reducible assumption))
                         all_goals (
                          refine K_seq ?_
                          refine K_region ?_
                          have hn : unquote s = none := by
                            rw [hub, hj]
                            first
                              | rw [unq_at_92_end hc (by omega) hge2]; rfl
                              | rw [unq_at_92 hc (by omega) hd, if_neg ‹¬ SpecialP d.toNat›]; rfl
                          refine W_assign rfl rfl ?_
                          refine W_assign rfl rfl ?_
                          refine W_nil ?_
                          refine N_then_k ?_
                          refine K_ret ?_
                          refine N_then_ret ?_
                          refine N_block_ret ?_
                          refine N_then_ret ?_
                          refine N_block_ret ?_
                          refine N_then_ret ?_
                          refine N_then_ret ?_
                          refine N_block_ret ?_
                          refine N_then_ret ?_
                          refine N_scope_ret ?_
                          refine N_done2 (.inr rfl) rfl rfl rfl ?_
                          refine ⟨_, rfl, ?_, hp.nil⟩
                          first
                            | (rw [hn]; rfl)
                            | (rw [hy]; rfl))
                       · try (exfalso; first | omega | (simp only [Bool.false_eq_true, reduceCtorEq] at hc8; done) | (refine absurd hc8 ?_; with_reducible assumption) | (refine absurd ?_ hc8; with_reducible assumption))
                         all_goals (
                          refine K_skip ?_
                          refine N_then_k ?_
                          refine K_region ?_
                          refine W_move rfl rfl ?_
                          refine W_move rfl rfl ?_
                          refine W_index_s Try.underlying9 rfl rfl ?_ (by first | with_reducible assumption | assumption | exact rfl | exact idx_getD (by first | omega | (simp; omega))) rfl ?_
                          (focus (omega))
                          refine W_assign rfl rfl ?_
                          refine W_nil ?_
                          refine N_block_normal ?_
                          first
                            | (refine N_mid (i + 1, d) (sub_end ?_ ?_) ⟨hp, Nat.le_succ _, hlt2, ?_⟩
                               · repeat' (first | exact sub_lst_nil (sub_nil _) | refine sub_lst rfl ?_ | (refine sub_lst_eq rfl ?_ ?_; · first | rfl | (simp; done) | (congr 1; omega)))
                               · repeat' (first | exact sub_refl _ | exact sub_strip _ _ | refine sub_s_cons rfl ?_ | refine sub_s_lst rfl ?_ | refine sub_s_strip rfl ?_)
                               · rw [hj, unq_at_92 hc (by omega) hd, if_pos ‹SpecialP d.toNat›, map_snoc])
                            | (refine N_mid (i, c) (sub_end ?_ ?_) ⟨hp, Nat.le_refl _, hlt, ?_⟩
                               · repeat' (first | exact sub_lst_nil (sub_nil _) | refine sub_lst rfl ?_ | (refine sub_lst_eq rfl ?_ ?_; · first | rfl | (simp; done) | (congr 1; omega)))
                               · repeat' (first | exact sub_refl _ | exact sub_strip _ _ | refine sub_s_cons rfl ?_ | refine sub_s_lst rfl ?_ | refine sub_s_strip rfl ?_)
                               · rw [hj, unq_at hc (by omega) (by omega), if_pos ‹FieldP c.toNat›, map_snoc])))))
                  · try (exfalso; first | omega | (simp only [Bool.false_eq_true, reduceCtorEq] at hc6; done) | (refine absurd hc6 ?_; with_reducible assumption) | (refine absurd ?_ hc6; with_reducible assumption))
                    all_goals (
                     refine K_seq ?_
                     refine K_region ?_
                     refine W_move rfl rfl ?_
                     refine W_pcall hp rfl (field_spec c) rfl ?_
                     clear hp; intro w hp
                     first
                       | (refine W_not_t rfl rfl ?_)
                       | (refine W_not_f rfl rfl ?_)
                       | (refine W_not rfl rfl ?_)
                     refine W_assign rfl rfl ?_
                     refine W_nil ?_
                     refine N_then_k ?_
                     first
                       | refine K_cond_d rfl (fun hc9 => ?_) (fun hc9 => ?_)
                       | refine K_cond_n rfl (fun hc9 => ?_) (fun hc9 => ?_)
                       | refine K_cond_nb rfl (fun hc9 => ?_) (fun hc9 => ?_)
                       | refine K_cond_t rfl (fun hc9 => ?_) (fun hc9 => ?_)
                     · try (exfalso; first | omega | (simp only [Bool.false_eq_true, reduceCtorEq] at hc9; done) | (refine absurd hc9 ?_; with_reducible assumption) | (refine absurd ?_ hc9; with_reducible assumption))
                       all_goals (
                        refine K_seq ?_
                        refine K_region ?_
                        have hn : unquote s = none := by rw [hub, hj, unq_at hc (by omega) (by omega), if_neg ‹¬ FieldP c.toNat›]; rfl
                        refine W_assign rfl rfl ?_
                        refine W_assign rfl rfl ?_
                        refine W_nil ?_
                        refine N_then_k ?_
                        refine K_ret ?_
                        refine N_block_ret ?_
                        refine N_then_ret ?_
                        refine N_block_ret ?_
                        refine N_then_ret ?_
                        refine N_then_ret ?_
                        refine N_block_ret ?_
                        refine N_then_ret ?_
                        refine N_scope_ret ?_
                        refine N_done2 (.inr rfl) rfl rfl rfl ?_
                        refine ⟨_, rfl, ?_, hp.nil⟩
                        first
                          | (rw [hn]; rfl)
                          | (rw [hy]; rfl))
                     · try (exfalso; first | omega | (simp only [Bool.false_eq_true, reduceCtorEq] at hc9; done) | (refine absurd hc9 ?_; with_reducible assumption) | (refine absurd ?_ hc9; with_reducible assumption))
                       all_goals (
                        refine K_skip ?_
                        refine N_block_normal ?_
                        first
                          | (refine N_mid (i + 1, d) (sub_end ?_ ?_) ⟨hp, Nat.le_succ _, hlt2, ?_⟩
                             · repeat' (first | exact sub_lst_nil (sub_nil _) | refine sub_lst rfl ?_ | (refine sub_lst_eq rfl ?_ ?_; · first | rfl | (simp; done) | (congr 1; omega)))
                             · repeat' (first | exact sub_refl _ | exact sub_strip _ _ | refine sub_s_cons rfl ?_ | refine sub_s_lst rfl ?_ | refine sub_s_strip rfl ?_)
                             · rw [hj, unq_at_92 hc (by omega) hd, if_pos ‹SpecialP d.toNat›, map_snoc])
                          | (refine N_mid (i, c) (sub_end ?_ ?_) ⟨hp, Nat.le_refl _, hlt, ?_⟩
                             · repeat' (first | exact sub_lst_nil (sub_nil _) | refine sub_lst rfl ?_ | (refine sub_lst_eq rfl ?_ ?_; · first | rfl | (simp; done) | (congr 1; omega)))
                             · repeat' (first | exact sub_refl _ | exact sub_strip _ _ | refine sub_s_cons rfl ?_ | refine sub_s_lst rfl ?_ | refine sub_s_strip rfl ?_)
                             · rw [hj, unq_at hc (by omega) (by omega), if_pos ‹FieldP c.toNat›, map_snoc]))))
             · intro ⟨i2, x⟩ w hJ
               clear hp
               obtain ⟨hp, hi1, hi2, hj2⟩ := hJ
               simp only at hi1 hi2 hj2
               refine K_region ?_
               refine W_move rfl rfl ?_
               refine W_move rfl rfl ?_
               refine W_bslice1 hp Try.underlying32 sz5 zv5 rfl  rfl  (fun v0 => [v0]) rfl rfl rfl ?_
               clear hp; intro b52 w hp
               try simp only [List.append_nil] at hp
               rw [← List.append_nil Hs] at hp
               refine W_append_sl (A := [_]) (B := []) _ rfl hp rfl Try.underlying32 sz5 pb5 zv5 rfl rfl rfl rfl hos (Rd.own hp (by first | exact List.mem_cons_self | exact .tail _ (.head _) | exact .tail _ (.tail _ (.head _)) | exact .tail _ (.tail _ (.tail _ (.head _))) | exact .tail _ (.tail _ (.tail _ (.tail _ (.head _)))) | exact .tail _ (.tail _ (.tail _ (.tail _ (.tail _ (.head _)))))) (List.prefix_refl _)) ?_ ?_ ?_ ?_ rfl ?_
               · rfl
               · simp [Value.oneCell']
               · (simp only [maxLen]; omega)
               · omega
               clear hp; intro va53 Hs w hos hp
               replace hos := OSb.snoc (c := x) hos
               obtain ⟨Aa53, ca53, rfl⟩ := hos.form
               refine W_assign rfl rfl ?_
               refine W_nil ?_
               refine N_block_normal ?_
               refine N_then_k ?_
               refine K_region ?_
               refine W_move rfl rfl ?_
               first
                 | (refine W_add rfl rfl (wr_i64 ?_) rfl ?_; (focus (omega)))
                 | (refine W_add rfl rfl rfl rfl ?_)
               refine W_assign rfl rfl ?_
               refine W_nil ?_
               refine N_again ((i2 + 1, out ++ [x], .slice Aa53 (out ++ [x]).length ca53, Hs)) (sub_end ?_ ?_) ?_ ?_
               · repeat' (first | exact sub_lst_nil (sub_nil _) | refine sub_lst rfl ?_ | (refine sub_lst_eq rfl ?_ ?_; · first | rfl | (simp; done) | (congr 1; omega)))
               · repeat' (first | exact sub_refl _ | exact sub_strip _ _ | refine sub_s_cons rfl ?_ | refine sub_s_lst rfl ?_ | refine sub_s_strip rfl ?_)
               · exact ⟨hos, by simpa using hp.drop (List.sublist_cons_self _ _), hi2, by simp; omega, hj2⟩
               · show _ < _; simp only; omega)
          · try (exfalso; first | omega | (simp only [Bool.false_eq_true, reduceCtorEq] at hc3; done) | (refine absurd hc3 ?_; with_reducible assumption) | (refine absurd ?_ hc3; with_reducible assumption))
            all_goals (
             refine K_exit ?_
             refine N_then_exit ?_
             refine N_then_exit ?_
             refine N_block_exit ?_
             refine N_then_k ?_
             refine K_seq ?_
             refine K_seq ?_
             refine K_region ?_
             refine W_move rfl rfl ?_
             refine W_move rfl rfl ?_
             refine W_len_s Try.underlying9 rfl rfl ?_
             first
               | (refine W_sub rfl rfl (wr_i64 ?_) rfl ?_; (focus (omega)))
               | (refine W_sub rfl rfl rfl rfl ?_)
             first
               | (refine W_neq_t rfl rfl ?_ rfl ?_; (focus (omega)))
               | (refine W_neq_f rfl rfl ?_ rfl ?_; (focus (omega)))
               | (refine W_neq rfl rfl rfl ?_)
             refine W_nil ?_
             refine N_then_k ?_
             first
               | refine K_cond_d rfl (fun hc10 => ?_) (fun hc10 => ?_)
               | refine K_cond_n rfl (fun hc10 => ?_) (fun hc10 => ?_)
               | refine K_cond_nb rfl (fun hc10 => ?_) (fun hc10 => ?_)
               | refine K_cond_t rfl (fun hc10 => ?_) (fun hc10 => ?_)
             · try (exfalso; first | omega | (simp only [Bool.false_eq_true, reduceCtorEq] at hc10; done) | (refine absurd hc10 ?_; with_reducible assumption) | (refine absurd ?_ hc10; with_reducible assumption))
               all_goals (
                refine K_seq ?_
                refine K_region ?_
                have hn : unquote s = none := by
                  rw [hub, hj]
                  first
                    | (rw [unq_at_end hge]; rfl)
                    | (rw [unq_at_34 hc (by omega), if_neg (by omega)]; rfl)
                refine W_assign rfl rfl ?_
                refine W_assign rfl rfl ?_
                refine W_nil ?_
                refine N_then_k ?_
                refine K_ret ?_
                refine N_then_ret ?_
                refine N_scope_ret ?_
                refine N_done2 (.inr rfl) rfl rfl rfl ?_
                refine ⟨_, rfl, ?_, hp.nil⟩
                first
                  | (rw [hn]; rfl)
                  | (rw [hy]; rfl))
             · try (exfalso; first | omega | (simp only [Bool.false_eq_true, reduceCtorEq] at hc10; done) | (refine absurd hc10 ?_; with_reducible assumption) | (refine absurd ?_ hc10; with_reducible assumption))
               all_goals (
                refine K_skip ?_
                refine N_then_k ?_
                refine K_seq ?_
                refine K_region ?_
                have hy : unquote s = some out := by
                  rw [hub, hj, unq_at_34 hc (by omega), if_pos (by omega)]; simp
                refine W_move rfl rfl ?_
                refine W_conv_bs (a := out) Try.underlying32 Try.underlying5 Try.underlying9 rfl (OS.rd (A := []) (B := []) hos (by simpa using hp)) rfl rfl ?_
                refine W_assign rfl rfl ?_
                refine W_assign rfl rfl ?_
                refine W_nil ?_
                refine N_then_k ?_
                refine K_ret ?_
                refine N_scope_ret ?_
                refine N_done2 (.inr rfl) rfl rfl rfl ?_
                refine ⟨_, rfl, ?_, hp.nil⟩
                first
                  | (rw [hn]; rfl)
                  | (rw [hy]; rfl)))))))

theorem breakB_iff : ∀ c : UInt8, breakB c = true ↔ c = 0 ∨ c = 10 ∨ c = 13 := u8_all (by decide +kernel)
theorem safe_in (s : List UInt8) : safe s = (!decide ((0 : UInt8) ∈ s) && !decide ((10 : UInt8) ∈ s) && !decide ((13 : UInt8) ∈ s)) := by
  rw [Bool.eq_iff_iff]
  simp only [safe, List.all_eq_true, Bool.not_eq_true', Bool.and_eq_true, decide_eq_false_iff_not]
  constructor
  · intro h
    refine ⟨⟨fun hm => ?_, fun hm => ?_⟩, fun hm => ?_⟩
    · have := h _ hm; rw [(breakB_iff 0).2 (.inl rfl)] at this; cases this
    · have := h _ hm; rw [(breakB_iff 10).2 (.inr (.inl rfl))] at this; cases this
    · have := h _ hm; rw [(breakB_iff 13).2 (.inr (.inr rfl))] at this; cases this
  · rintro ⟨⟨h1, h2⟩, h3⟩ c hc
    cases hb : breakB c with
    | false => rfl
    | true =>
      rcases (breakB_iff c).1 hb with rfl | rfl | rfl
      · exact absurd hc h1
      · exact absurd hc h2
      · exact absurd hc h3
theorem cleanC_val (c : UInt8) : ((cleanC c).toNat : Int) = if BreakP c.toNat then 32 else (c.toNat : Int) := by unfold cleanC; split <;> rfl
theorem cleanL_take {s : List UInt8} {k : Nat} {c : UInt8} (h : s[k]? = some c) : cleanL (s.take (k + 1)) = cleanL (s.take k) ++ [cleanC c] := by rw [List.take_add_one, h]; simp [cleanL]

theorem rsafe_spec (s : List UInt8) (hl : s.length ≤ 1000000) : PureF Try.prog 12 [.string ⟨s.toArray⟩] (.bool (safe s)) := by
  have h0 : (0 : UInt8).toNat = 0 := rfl
  have h10 : (10 : UInt8).toNat = 10 := rfl
  have h13 : (13 : UInt8).toNat = 13 := rfl
  refine PureF.intro go12 Try.func12 rfl rfl fun w0 hp => ?_
  refine K_seq ?_
  refine K_region ?_
  refine W_assign rfl rfl ?_
  refine W_nil ?_
  refine N_then_k ?_
  refine K_seq ?_
  refine K_region ?_
  refine W_move rfl rfl ?_
  refine W_pcall hp rfl (in_spec 0 s (by omega)) rfl ?_
  clear hp; intro w hp
  first
    | (refine W_not_t rfl rfl ?_)
    | (refine W_not_f rfl rfl ?_)
    | (refine W_not rfl rfl ?_)
  refine W_move rfl rfl ?_
  first
    | refine W_guard_lit_t rfl ?_
    | refine W_guard_lit_f rfl ?_
    | refine W_guard_lit_u rfl ?_
    | refine W_guard_split_d rfl rfl rfl (fun hg1 => ?_) (fun hg1 => ?_)
    | refine W_guard_split_n rfl rfl rfl (fun hg1 => ?_) (fun hg1 => ?_)
    | refine W_guard_split_nb rfl rfl rfl (fun hg1 => ?_) (fun hg1 => ?_)
    | refine W_guard_split rfl rfl rfl (fun hg1 => ?_) (fun hg1 => ?_)
  all_goals try (exfalso; first | omega | (simp only [Bool.false_eq_true, reduceCtorEq] at hg1; done) | (refine absurd hg1 ?_; with_reducible assumption) | (refine absurd ?_ hg1; with_reducible assumption))
  all_goals (
   first
     | (iterate 3 refine W_guard_no rfl rfl rfl ?_)
     | (iterate 3 refine W_guard_un rfl rfl ?_)
     | (refine W_guard_yes rfl ?_
        refine W_move rfl rfl ?_
        refine W_guard_yes rfl ?_
        refine W_pcall hp rfl (in_spec 10 s (by omega)) rfl ?_
        clear hp; intro w hp
        refine W_guard_yes rfl ?_
        first
          | (refine W_not_t rfl rfl ?_)
          | (refine W_not_f rfl rfl ?_)
          | (refine W_not rfl rfl ?_))
   first
     | (refine W_pick_t rfl rfl rfl ?_)
     | (refine W_pick_f rfl rfl rfl ?_)
     | (refine W_pick_b rfl rfl rfl rfl ?_)
   refine W_move rfl rfl ?_
   first
     | refine W_guard_lit_t rfl ?_
     | refine W_guard_lit_f rfl ?_
     | refine W_guard_lit_u rfl ?_
     | refine W_guard_split_d rfl rfl rfl (fun hg2 => ?_) (fun hg2 => ?_)
     | refine W_guard_split_n rfl rfl rfl (fun hg2 => ?_) (fun hg2 => ?_)
     | refine W_guard_split_nb rfl rfl rfl (fun hg2 => ?_) (fun hg2 => ?_)
     | refine W_guard_split rfl rfl rfl (fun hg2 => ?_) (fun hg2 => ?_)
   all_goals try (exfalso; first | omega | (simp only [Bool.false_eq_true, reduceCtorEq] at hg2; done) | (refine absurd hg2 ?_; with_reducible assumption) | (refine absurd ?_ hg2; with_reducible assumption))
   all_goals (
    first
      | (iterate 3 refine W_guard_no rfl rfl rfl ?_)
      | (iterate 3 refine W_guard_un rfl rfl ?_)
      | (refine W_guard_yes rfl ?_
         refine W_move rfl rfl ?_
         refine W_guard_yes rfl ?_
         refine W_pcall hp rfl (in_spec 13 s (by omega)) rfl ?_
         clear hp; intro w hp
         refine W_guard_yes rfl ?_
         first
           | (refine W_not_t rfl rfl ?_)
           | (refine W_not_f rfl rfl ?_)
           | (refine W_not rfl rfl ?_))
    first
      | (refine W_pick_t rfl rfl rfl ?_)
      | (refine W_pick_f rfl rfl rfl ?_)
      | (refine W_pick_b rfl rfl rfl rfl ?_)
    refine W_assign rfl rfl ?_
    refine W_nil ?_
    refine N_then_k ?_
    refine K_ret ?_
    refine N_done1 (.inr rfl) rfl rfl ?_
    refine ⟨_, rfl, congrArg Value.bool ?_, hp.nil⟩
    rw [safe_in]
    simp [*]))

theorem rclean_spec (s : List UInt8) (hl : s.length ≤ 1000000) : PureF Try.prog 10 [.string ⟨s.toArray⟩] (.string ⟨(cleanL s).toArray⟩) := by
  refine PureF.intro go10 Try.func10 rfl rfl fun w0 hp => ?_
  refine K_seq ?_
  refine K_region ?_
  refine W_assign rfl rfl ?_
  refine W_nil ?_
  refine N_then_k ?_
  refine K_seq ?_
  refine K_region ?_
  refine W_assign rfl rfl ?_
  refine W_nil ?_
  refine N_then_k ?_
  refine K_seq ?_
  refine K_seq ?_
  refine K_region ?_
  refine W_assign rfl rfl ?_
  refine W_nil ?_
  refine N_then_k ?_
  refine K_block ?_
  refine K_loop (σ := Nat × Value × Heap) [3, 4, 5, 6, 7, 8, 9, 10, 11, 12, 13, 14, 15, 16, 17, 18, 19, 20, 21, 22, 23, 24, 25, 26, 27, 28]
      (fun q => [(4, .int .i64 q.1), (3, q.2.1)])
      (fun q w => OSb 5 q.2.1 (cleanL (s.take q.1)) q.2.2 ∧ Hp w0 [] (q.2.2) w ∧ q.1 ≤ s.length)
      (fun q => s.length - q.1) ((0, .slice none 0 0, [])) ?_ ?_ ?_
  · repeat' (first | exact sub_lst_nil (sub_nil _) | refine sub_lst rfl ?_ | (refine sub_lst_eq rfl ?_ ?_; · first | rfl | (simp; done) | (congr 1; omega)))
  · exact ⟨OSb.nil, hp, Nat.zero_le _⟩
  · intro ⟨k, v, Hs⟩ w hJ
    clear hp
    obtain ⟨hos, hp, hle⟩ := hJ
    simp only at hos hp hle
    obtain ⟨Av, cv, rfl⟩ := hos.form
    rcases Nat.lt_or_ge k (s.length) with hlt | hge
    all_goals (
     refine K_seq ?_
     refine K_seq ?_
     refine K_region ?_
     refine W_move rfl rfl ?_
     refine W_move rfl rfl ?_
     refine W_len_s Try.underlying9 rfl rfl ?_
     first
       | (refine W_lss_t rfl rfl ?_ rfl ?_; (focus (omega)))
       | (refine W_lss_f rfl rfl ?_ rfl ?_; (focus (omega)))
       | (refine W_lss rfl rfl rfl ?_)
     refine W_nil ?_
     refine N_then_k ?_
     first
       | refine K_cond_d rfl (fun hc1 => ?_) (fun hc1 => ?_)
       | refine K_cond_n rfl (fun hc1 => ?_) (fun hc1 => ?_)
       | refine K_cond_nb rfl (fun hc1 => ?_) (fun hc1 => ?_)
       | refine K_cond_t rfl (fun hc1 => ?_) (fun hc1 => ?_)
     · try (exfalso; first | omega | (simp only [Bool.false_eq_true, reduceCtorEq] at hc1; done) | (refine absurd hc1 ?_; with_reducible assumption) | (refine absurd ?_ hc1; with_reducible assumption))
       all_goals (
        refine K_skip ?_
        refine N_then_k ?_
        refine K_seq ?_
        refine K_block ?_
        refine K_seq ?_
        refine K_region ?_
        obtain ⟨c, hc⟩ : ∃ c, s[k]? = some c := ⟨_, List.getElem?_eq_getElem hlt⟩
        have hu := c.toNat_lt
        have hlv := cleanC_val c
        have htl : (cleanL (s.take k)).length ≤ s.length := by simp [cleanL]; omega
        refine W_move rfl rfl ?_
        refine W_move rfl rfl ?_
        refine W_index_s Try.underlying9 rfl rfl ?_ (by first | with_reducible assumption | assumption | exact rfl | exact idx_getD (by first | omega | (simp; omega))) rfl ?_
        (focus (omega))
        refine W_assign rfl rfl ?_
        refine W_nil ?_
        refine N_then_k ?_
        refine K_mid (σ := Unit) [5, 15, 16, 17, 18, 19, 20, 21, 22, 23, 24]
            (fun _ => [(5, .int .u8 ((cleanC c).toNat : Int))])
            (fun _ w => Hp w0 [] Hs w) ?_ ?_
        · refine K_seq ?_
          refine K_region ?_
          refine W_move rfl rfl ?_
          first
            | (refine W_eql_t rfl rfl ?_ rfl ?_; (focus (omega)))
            | (refine W_eql_f rfl rfl ?_ rfl ?_; (focus (omega)))
            | (refine W_eql rfl rfl rfl ?_)
          refine W_move rfl rfl ?_
          first
            | refine W_guard_lit_t rfl ?_
            | refine W_guard_lit_f rfl ?_
            | refine W_guard_lit_u rfl ?_
            | refine W_guard_split_d rfl rfl rfl (fun hg2 => ?_) (fun hg2 => ?_)
            | refine W_guard_split_n rfl rfl rfl (fun hg2 => ?_) (fun hg2 => ?_)
            | refine W_guard_split_nb rfl rfl rfl (fun hg2 => ?_) (fun hg2 => ?_)
            | refine W_guard_split rfl rfl rfl (fun hg2 => ?_) (fun hg2 => ?_)
          all_goals try (exfalso; first | omega | (simp only [Bool.false_eq_true, reduceCtorEq] at hg2; done) | (refine absurd hg2 ?_; with_reducible assumption) | (refine absurd ?_ hg2; with_reducible assumption))
          all_goals (
           first
             | (iterate 2 refine W_guard_no rfl rfl rfl ?_)
             | (iterate 2 refine W_guard_un rfl rfl ?_)
             | (refine W_guard_yes rfl ?_
                refine W_move rfl rfl ?_
                refine W_guard_yes rfl ?_
                first
                  | (refine W_eql_t rfl rfl ?_ rfl ?_; (focus (omega)))
                  | (refine W_eql_f rfl rfl ?_ rfl ?_; (focus (omega)))
                  | (refine W_eql rfl rfl rfl ?_))
           first
             | (refine W_pick_t rfl rfl rfl ?_)
             | (refine W_pick_f rfl rfl rfl ?_)
             | (refine W_pick_b rfl rfl rfl rfl ?_)
           refine W_move rfl rfl ?_
           first
             | refine W_guard_lit_t rfl ?_
             | refine W_guard_lit_f rfl ?_
             | refine W_guard_lit_u rfl ?_
             | refine W_guard_split_d rfl rfl rfl (fun hg3 => ?_) (fun hg3 => ?_)
             | refine W_guard_split_n rfl rfl rfl (fun hg3 => ?_) (fun hg3 => ?_)
             | refine W_guard_split_nb rfl rfl rfl (fun hg3 => ?_) (fun hg3 => ?_)
             | refine W_guard_split rfl rfl rfl (fun hg3 => ?_) (fun hg3 => ?_)
           all_goals try (exfalso; first | omega | (simp only [Bool.false_eq_true, reduceCtorEq] at hg3; done) | (refine absurd hg3 ?_; with_reducible assumption) | (refine absurd ?_ hg3; with_reducible assumption))
           all_goals (
            first
              | (iterate 2 refine W_guard_no rfl rfl rfl ?_)
              | (iterate 2 refine W_guard_un rfl rfl ?_)
              | (refine W_guard_yes rfl ?_
                 refine W_move rfl rfl ?_
                 refine W_guard_yes rfl ?_
                 first
                   | (refine W_eql_t rfl rfl ?_ rfl ?_; (focus (omega)))
                   | (refine W_eql_f rfl rfl ?_ rfl ?_; (focus (omega)))
                   | (refine W_eql rfl rfl rfl ?_))
            first
              | (refine W_pick_t rfl rfl rfl ?_)
              | (refine W_pick_f rfl rfl rfl ?_)
              | (refine W_pick_b rfl rfl rfl rfl ?_)
            refine W_nil ?_
            refine N_then_k ?_
            first
              | refine K_cond_d rfl (fun hc4 => ?_) (fun hc4 => ?_)
              | refine K_cond_n rfl (fun hc4 => ?_) (fun hc4 => ?_)
              | refine K_cond_nb rfl (fun hc4 => ?_) (fun hc4 => ?_)
              | refine K_cond_t rfl (fun hc4 => ?_) (fun hc4 => ?_)
            · try (exfalso; first | omega | (simp only [Bool.false_eq_true, reduceCtorEq] at hc4; done) | (refine absurd hc4 ?_; with_reducible assumption) | (refine absurd ?_ hc4; with_reducible assumption))
              all_goals (
               refine K_region ?_
               refine W_assign rfl rfl ?_
               refine W_nil ?_
               refine N_mid (()) (sub_end ?_ ?_) ?_
               · repeat' (first | exact sub_lst_nil (sub_nil _) | refine sub_lst rfl ?_ | (refine sub_lst_eq rfl ?_ ?_; · first | rfl | (rw [hlv]; first | rw [if_pos (by omega)] | rw [if_neg (by omega)]) | (simp; done) | (congr 1; omega)))
               · repeat' (first | exact sub_refl _ | exact sub_strip _ _ | refine sub_s_cons rfl ?_ | refine sub_s_lst rfl ?_ | refine sub_s_strip rfl ?_)
               · exact hp)
            · try (exfalso; first | omega | (simp only [Bool.false_eq_true, reduceCtorEq] at hc4; done) | (refine absurd hc4 ?_; with_reducible assumption) | (refine absurd ?_ hc4; with_reducible assumption))
              all_goals (
               refine K_skip ?_
               refine N_mid (()) (sub_end ?_ ?_) ?_
               · repeat' (first | exact sub_lst_nil (sub_nil _) | refine sub_lst rfl ?_ | (refine sub_lst_eq rfl ?_ ?_; · first | rfl | (rw [hlv]; first | rw [if_pos (by omega)] | rw [if_neg (by omega)]) | (simp; done) | (congr 1; omega)))
               · repeat' (first | exact sub_refl _ | exact sub_strip _ _ | refine sub_s_cons rfl ?_ | refine sub_s_lst rfl ?_ | refine sub_s_strip rfl ?_)
               · exact hp)))
        · intro _ w hJ
          have hp := hJ
          refine K_region ?_
          refine W_move rfl rfl ?_
          refine W_move rfl rfl ?_
          refine W_bslice1 hp Try.underlying32 sz5 zv5 rfl  rfl  (fun v0 => [v0]) rfl rfl rfl ?_
          clear hp; intro b27 w hp
          try simp only [List.append_nil] at hp
          rw [← List.append_nil Hs] at hp
          refine W_append_sl (A := [_]) (B := []) _ rfl hp rfl Try.underlying32 sz5 pb5 zv5 rfl rfl rfl rfl hos (Rd.own hp (by first | exact List.mem_cons_self | exact .tail _ (.head _) | exact .tail _ (.tail _ (.head _)) | exact .tail _ (.tail _ (.tail _ (.head _))) | exact .tail _ (.tail _ (.tail _ (.tail _ (.head _)))) | exact .tail _ (.tail _ (.tail _ (.tail _ (.tail _ (.head _)))))) (List.prefix_refl _)) ?_ ?_ ?_ ?_ rfl ?_
          · rfl
          · simp [Value.oneCell']
          · (simp only [maxLen]; omega)
          · omega
          clear hp; intro va28 Hs w hos hp
          replace hos := OSb.snoc (c := (cleanC c)) hos
          obtain ⟨Aa28, ca28, rfl⟩ := hos.form
          refine W_assign rfl rfl ?_
          refine W_nil ?_
          refine N_block_normal ?_
          refine N_then_k ?_
          refine K_region ?_
          refine W_move rfl rfl ?_
          first
            | (refine W_add rfl rfl (wr_i64 ?_) rfl ?_; (focus (omega)))
            | (refine W_add rfl rfl rfl rfl ?_)
          refine W_assign rfl rfl ?_
          refine W_nil ?_
          refine N_again ((k + 1, .slice Aa28 (cleanL (s.take k) ++ [cleanC c]).length ca28, Hs)) (sub_end ?_ ?_) ?_ ?_
          · repeat' (first | exact sub_lst_nil (sub_nil _) | refine sub_lst rfl ?_ | (refine sub_lst_eq rfl ?_ ?_; · first | rfl | (simp; done) | (congr 1; omega)))
          · repeat' (first | exact sub_refl _ | exact sub_strip _ _ | refine sub_s_cons rfl ?_ | refine sub_s_lst rfl ?_ | refine sub_s_strip rfl ?_)
          · refine ⟨?_, by simpa using hp.drop (List.sublist_cons_self _ _), hlt⟩
            show OSb _ _ (cleanL (s.take (k + 1))) _
            rw [cleanL_take hc]; exact hos
          · show _ < _; simp only; omega)
     · try (exfalso; first | omega | (simp only [Bool.false_eq_true, reduceCtorEq] at hc1; done) | (refine absurd hc1 ?_; with_reducible assumption) | (refine absurd ?_ hc1; with_reducible assumption))
       all_goals (
        refine K_exit ?_
        refine N_then_exit ?_
        refine N_then_exit ?_
        refine N_block_exit ?_
        refine N_then_k ?_
        refine K_seq ?_
        refine K_region ?_
        refine W_move rfl rfl ?_
        refine W_conv_bs (a := cleanL (s.take k)) Try.underlying32 Try.underlying5 Try.underlying9 rfl (OS.rd (A := []) (B := []) hos (by simpa using hp)) rfl rfl ?_
        refine W_assign rfl rfl ?_
        refine W_nil ?_
        refine N_then_k ?_
        refine K_ret ?_
        refine N_done1 (.inr rfl) rfl rfl ?_
        refine ⟨_, rfl, ?_, hp.nil⟩
        rw [List.take_of_length_le hge]))

theorem rquote_ok (s : List UInt8) (hl : s.length ≤ 1000000) (hf : s.all fieldB = true) : PureF Try.prog 14 [.string ⟨s.toArray⟩] (.tuple #[.string ⟨(quote s).toArray⟩, .bool true]) := by
  refine PureF.intro go14 Try.func14 rfl rfl fun w0 hp => ?_
  refine K_seq ?_
  refine K_region ?_
  refine W_assign rfl rfl ?_
  refine W_assign rfl rfl ?_
  refine W_nil ?_
  refine N_then_k ?_
  refine K_seq ?_
  refine K_seq ?_
  refine K_region ?_
  refine W_move rfl rfl ?_
  refine W_pcall hp rfl ((rall5_spec s (by omega)).eq (congrArg Value.bool hf)) rfl ?_
  clear hp; intro w hp
  first
    | (refine W_not_t rfl rfl ?_)
    | (refine W_not_f rfl rfl ?_)
    | (refine W_not rfl rfl ?_)
  refine W_nil ?_
  refine N_then_k ?_
  first
    | refine K_cond_d rfl (fun hc1 => ?_) (fun hc1 => ?_)
    | refine K_cond_n rfl (fun hc1 => ?_) (fun hc1 => ?_)
    | refine K_cond_nb rfl (fun hc1 => ?_) (fun hc1 => ?_)
    | refine K_cond_t rfl (fun hc1 => ?_) (fun hc1 => ?_)
  · try (exfalso; first | omega | (simp only [Bool.false_eq_true, reduceCtorEq] at hc1; done) | (refine absurd hc1 ?_; with_reducible assumption) | (refine absurd ?_ hc1; with_reducible assumption))
    all_goals (
     refine K_seq ?_
     fail "not to be reached")
  · try (exfalso; first | omega | (simp only [Bool.false_eq_true, reduceCtorEq] at hc1; done) | (refine absurd hc1 ?_; with_reducible assumption) | (refine absurd ?_ hc1; with_reducible assumption))
    all_goals (
     refine K_skip ?_
     refine N_then_k ?_
     refine K_seq ?_
     refine K_region ?_
     refine W_bslice1 hp Try.underlying32 sz5 zv5 rfl  rfl  (fun v0 => [v0]) rfl rfl rfl ?_
     clear hp; intro b9 w hp
     refine W_assign rfl rfl ?_
     refine W_nil ?_
     refine N_then_k ?_
     refine K_seq ?_
     refine K_seq ?_
     refine K_region ?_
     refine W_assign rfl rfl ?_
     refine W_nil ?_
     refine N_then_k ?_
     refine K_block ?_
     refine K_loop (σ := Nat × Value × Heap) [4, 5, 10, 11, 12, 13, 14, 15, 16, 17, 18, 19, 20, 21, 22, 23, 24, 25, 26, 27, 28, 29, 30, 31, 32, 33, 34]
         (fun q => [(5, .int .i64 q.1), (4, q.2.1)])
         (fun q w => OSb 5 q.2.1 (34 :: quoteB (s.take q.1)) q.2.2 ∧ Hp w0 [] (q.2.2) w ∧ q.1 ≤ s.length)
         (fun q => s.length - q.1) ((0, .slice (some ⟨b9, 0, none⟩) 1 1, [(b9, .cells [.int .u8 34].toArray 5)])) ?_ ?_ ?_
     · repeat' (first | exact sub_lst_nil (sub_nil _) | refine sub_lst rfl ?_ | (refine sub_lst_eq rfl ?_ ?_; · first | rfl | (simp; done) | (congr 1; omega)))
     · exact ⟨OSb.lit (a := [34]) rfl (by decide), hp, Nat.zero_le _⟩
     · intro ⟨k, v, Hs⟩ w hJ
       clear hp
       obtain ⟨hos, hp, hle⟩ := hJ
       simp only at hos hp hle
       obtain ⟨Av, cv, rfl⟩ := hos.form
       rcases Nat.lt_or_ge k (s.length) with hlt | hge
       all_goals (
        refine K_seq ?_
        refine K_seq ?_
        refine K_region ?_
        refine W_move rfl rfl ?_
        refine W_move rfl rfl ?_
        refine W_len_s Try.underlying9 rfl rfl ?_
        first
          | (refine W_lss_t rfl rfl ?_ rfl ?_; (focus (omega)))
          | (refine W_lss_f rfl rfl ?_ rfl ?_; (focus (omega)))
          | (refine W_lss rfl rfl rfl ?_)
        refine W_nil ?_
        refine N_then_k ?_
        first
          | refine K_cond_d rfl (fun hc2 => ?_) (fun hc2 => ?_)
          | refine K_cond_n rfl (fun hc2 => ?_) (fun hc2 => ?_)
          | refine K_cond_nb rfl (fun hc2 => ?_) (fun hc2 => ?_)
          | refine K_cond_t rfl (fun hc2 => ?_) (fun hc2 => ?_)
        · try (exfalso; first | omega | (simp only [Bool.false_eq_true, reduceCtorEq] at hc2; done) | (refine absurd hc2 ?_; with_reducible assumption) | (refine absurd ?_ hc2; with_reducible assumption))
          all_goals (
           refine K_skip ?_
           refine N_then_k ?_
           refine K_seq ?_
           refine K_block ?_
           obtain ⟨c, hc⟩ : ∃ c, s[k]? = some c := ⟨_, List.getElem?_eq_getElem hlt⟩
           have hu := c.toNat_lt
           have hql := quoteB_length (s.take k)
           have htl : (s.take k).length ≤ s.length := by simp; omega
           have hqt : (34 :: quoteB (s.take k)).length ≤ 2000001 := by simp only [List.length_cons]; omega
           refine K_mid (σ := Value × Heap) [4, 16, 17, 18, 19, 20, 21, 22, 23, 24, 25, 26, 27, 28]
               (fun q => [(4, q.1)])
               (fun q w => OSb 5 q.1 (34 :: quoteB (s.take k) ++ (if SpecialP c.toNat then [92] else [])) q.2 ∧ Hp w0 [] q.2 w) ?_ ?_
           · refine K_seq ?_
             refine K_region ?_
             refine W_move rfl rfl ?_
             refine W_move rfl rfl ?_
             refine W_index_s Try.underlying9 rfl rfl ?_ (by first | with_reducible assumption | assumption | exact rfl | exact idx_getD (by first | omega | (simp; omega))) rfl ?_
             (focus (omega))
             first
               | (refine W_eql_t rfl rfl ?_ rfl ?_; (focus (omega)))
               | (refine W_eql_f rfl rfl ?_ rfl ?_; (focus (omega)))
               | (refine W_eql rfl rfl rfl ?_)
             refine W_move rfl rfl ?_
             first
               | refine W_guard_lit_t rfl ?_
               | refine W_guard_lit_f rfl ?_
               | refine W_guard_lit_u rfl ?_
               | refine W_guard_split_d rfl rfl rfl (fun hg3 => ?_) (fun hg3 => ?_)
               | refine W_guard_split_n rfl rfl rfl (fun hg3 => ?_) (fun hg3 => ?_)
               | refine W_guard_split_nb rfl rfl rfl (fun hg3 => ?_) (fun hg3 => ?_)
               | refine W_guard_split rfl rfl rfl (fun hg3 => ?_) (fun hg3 => ?_)
             all_goals try (exfalso; first | omega | (simp only [Bool.false_eq_true, reduceCtorEq] at hg3; done) | (refine absurd hg3 ?_; with_reducible assumption) | (refine absurd ?_ hg3; with_reducible assumption))
             all_goals (
              first
                | (iterate 4 refine W_guard_no rfl rfl rfl ?_)
                | (iterate 4 refine W_guard_un rfl rfl ?_)
                | (refine W_guard_yes rfl ?_
                   refine W_move rfl rfl ?_
                   refine W_guard_yes rfl ?_
                   refine W_move rfl rfl ?_
                   refine W_guard_yes rfl ?_
                   refine W_index_s Try.underlying9 rfl rfl ?_ (by first | with_reducible assumption | assumption | exact rfl | exact idx_getD (by first | omega | (simp; omega))) rfl ?_
                   (focus (omega))
                   refine W_guard_yes rfl ?_
                   first
                     | (refine W_eql_t rfl rfl ?_ rfl ?_; (focus (omega)))
                     | (refine W_eql_f rfl rfl ?_ rfl ?_; (focus (omega)))
                     | (refine W_eql rfl rfl rfl ?_))
              first
                | (refine W_pick_t rfl rfl rfl ?_)
                | (refine W_pick_f rfl rfl rfl ?_)
                | (refine W_pick_b rfl rfl rfl rfl ?_)
              refine W_nil ?_
              refine N_then_k ?_
              first
                | refine K_cond_d rfl (fun hc4 => ?_) (fun hc4 => ?_)
                | refine K_cond_n rfl (fun hc4 => ?_) (fun hc4 => ?_)
                | refine K_cond_nb rfl (fun hc4 => ?_) (fun hc4 => ?_)
                | refine K_cond_t rfl (fun hc4 => ?_) (fun hc4 => ?_)
              · try (exfalso; first | omega | (simp only [Bool.false_eq_true, reduceCtorEq] at hc4; done) | (refine absurd hc4 ?_; with_reducible assumption) | (refine absurd ?_ hc4; with_reducible assumption))
                all_goals (
                 refine K_region ?_
                 refine W_move rfl rfl ?_
                 refine W_bslice1 hp Try.underlying32 sz5 zv5 rfl  rfl  (fun v0 => [v0]) rfl rfl rfl ?_
                 clear hp; intro b27 w hp
                 try simp only [List.append_nil] at hp
                 rw [← List.append_nil Hs] at hp
                 refine W_append_sl (A := [_]) (B := []) _ rfl hp rfl Try.underlying32 sz5 pb5 zv5 rfl rfl rfl rfl hos (Rd.own hp (by first | exact List.mem_cons_self | exact .tail _ (.head _) | exact .tail _ (.tail _ (.head _)) | exact .tail _ (.tail _ (.tail _ (.head _))) | exact .tail _ (.tail _ (.tail _ (.tail _ (.head _)))) | exact .tail _ (.tail _ (.tail _ (.tail _ (.tail _ (.head _)))))) (List.prefix_refl _)) ?_ ?_ ?_ ?_ rfl ?_
                 · rfl
                 · simp [Value.oneCell']
                 · (simp only [maxLen]; omega)
                 · omega
                 clear hp; intro va28 Hs w hos hp
                 replace hos := OSb.snoc (c := 92) hos
                 obtain ⟨Aa28, ca28, rfl⟩ := hos.form
                 refine W_assign rfl rfl ?_
                 refine W_nil ?_
                 first
                   | (refine N_mid (.slice Aa28 (34 :: quoteB (s.take k) ++ [92]).length ca28, Hs) (sub_end ?_ ?_) ⟨?_, by simpa using hp.drop (List.sublist_cons_self _ _)⟩
                      · repeat' (first | exact sub_lst_nil (sub_nil _) | refine sub_lst rfl ?_ | (refine sub_lst_eq rfl ?_ ?_; · first | rfl | (simp; done) | (congr 1; omega)))
                      · repeat' (first | exact sub_refl _ | exact sub_strip _ _ | refine sub_s_cons rfl ?_ | refine sub_s_lst rfl ?_ | refine sub_s_strip rfl ?_)
                      · rw [if_pos (show SpecialP c.toNat by unfold SpecialP; omega)]; exact hos)
                   | (refine N_mid (.slice Av (34 :: quoteB (s.take k)).length cv, Hs) (sub_end ?_ ?_) ⟨?_, hp⟩
                      · repeat' (first | exact sub_lst_nil (sub_nil _) | refine sub_lst rfl ?_ | (refine sub_lst_eq rfl ?_ ?_; · first | rfl | (simp; done) | (congr 1; omega)))
                      · repeat' (first | exact sub_refl _ | exact sub_strip _ _ | refine sub_s_cons rfl ?_ | refine sub_s_lst rfl ?_ | refine sub_s_strip rfl ?_)
                      · rw [if_neg (show ¬ SpecialP c.toNat by unfold SpecialP; omega), List.append_nil]; exact hos))
              · try (exfalso; first | omega | (simp only [Bool.false_eq_true, reduceCtorEq] at hc4; done) | (refine absurd hc4 ?_; with_reducible assumption) | (refine absurd ?_ hc4; with_reducible assumption))
                all_goals (
                 refine K_skip ?_
                 first
                   | (refine N_mid (.slice Aa28 (34 :: quoteB (s.take k) ++ [92]).length ca28, Hs) (sub_end ?_ ?_) ⟨?_, by simpa using hp.drop (List.sublist_cons_self _ _)⟩
                      · repeat' (first | exact sub_lst_nil (sub_nil _) | refine sub_lst rfl ?_ | (refine sub_lst_eq rfl ?_ ?_; · first | rfl | (simp; done) | (congr 1; omega)))
                      · repeat' (first | exact sub_refl _ | exact sub_strip _ _ | refine sub_s_cons rfl ?_ | refine sub_s_lst rfl ?_ | refine sub_s_strip rfl ?_)
                      · rw [if_pos (show SpecialP c.toNat by unfold SpecialP; omega)]; exact hos)
                   | (refine N_mid (.slice Av (34 :: quoteB (s.take k)).length cv, Hs) (sub_end ?_ ?_) ⟨?_, hp⟩
                      · repeat' (first | exact sub_lst_nil (sub_nil _) | refine sub_lst rfl ?_ | (refine sub_lst_eq rfl ?_ ?_; · first | rfl | (simp; done) | (congr 1; omega)))
                      · repeat' (first | exact sub_refl _ | exact sub_strip _ _ | refine sub_s_cons rfl ?_ | refine sub_s_lst rfl ?_ | refine sub_s_strip rfl ?_)
                      · rw [if_neg (show ¬ SpecialP c.toNat by unfold SpecialP; omega), List.append_nil]; exact hos)))
           · intro ⟨v, Hs⟩ w hJ
             clear hos hp
             obtain ⟨hos, hp⟩ := hJ
             simp only at hos hp
             obtain ⟨Av, cv, rfl⟩ := hos.form
             have hql2 : (34 :: quoteB (s.take k) ++ (if SpecialP c.toNat then [92] else [])).length ≤ 2000004 := by
               have hql := quoteB_length (s.take k)
               have htl : (s.take k).length ≤ s.length := by simp; omega
               split <;> simp <;> omega
             refine K_region ?_
             refine W_move rfl rfl ?_
             refine W_move rfl rfl ?_
             refine W_move rfl rfl ?_
             refine W_index_s Try.underlying9 rfl rfl ?_ (by first | with_reducible assumption | assumption | exact rfl | exact idx_getD (by first | omega | (simp; omega))) rfl ?_
             (focus (omega))
             refine W_bslice1 hp Try.underlying32 sz5 zv5 rfl  rfl  (fun v0 => [v0]) rfl rfl rfl ?_
             clear hp; intro b33 w hp
             try simp only [List.append_nil] at hp
             rw [← List.append_nil Hs] at hp
             refine W_append_sl (A := [_]) (B := []) _ rfl hp rfl Try.underlying32 sz5 pb5 zv5 rfl rfl rfl rfl hos (Rd.own hp (by first | exact List.mem_cons_self | exact .tail _ (.head _) | exact .tail _ (.tail _ (.head _)) | exact .tail _ (.tail _ (.tail _ (.head _))) | exact .tail _ (.tail _ (.tail _ (.tail _ (.head _)))) | exact .tail _ (.tail _ (.tail _ (.tail _ (.tail _ (.head _)))))) (List.prefix_refl _)) ?_ ?_ ?_ ?_ rfl ?_
             · rfl
             · simp [Value.oneCell']
             · (simp only [maxLen]; omega)
             · omega
             clear hp; intro va34 Hs w hos hp
             replace hos := OSb.snoc (c := c) hos
             obtain ⟨Aa34, ca34, rfl⟩ := hos.form
             refine W_assign rfl rfl ?_
             refine W_nil ?_
             refine N_block_normal ?_
             refine N_then_k ?_
             refine K_region ?_
             refine W_move rfl rfl ?_
             first
               | (refine W_add rfl rfl (wr_i64 ?_) rfl ?_; (focus (omega)))
               | (refine W_add rfl rfl rfl rfl ?_)
             refine W_assign rfl rfl ?_
             refine W_nil ?_
             refine N_again ((k + 1, .slice Aa34 (34 :: quoteB (s.take k) ++ (if SpecialP c.toNat then [92] else []) ++ [c]).length ca34, Hs)) (sub_end ?_ ?_) ?_ ?_
             · repeat' (first | exact sub_lst_nil (sub_nil _) | refine sub_lst rfl ?_ | (refine sub_lst_eq rfl ?_ ?_; · first | rfl | (simp; done) | (congr 1; omega)))
             · repeat' (first | exact sub_refl _ | exact sub_strip _ _ | refine sub_s_cons rfl ?_ | refine sub_s_lst rfl ?_ | refine sub_s_strip rfl ?_)
             · refine ⟨?_, by simpa using hp.drop (List.sublist_cons_self _ _), hlt⟩
               show OSb _ _ (34 :: quoteB (s.take (k + 1))) _
               rw [quoteB_take hc]
               simpa using hos
             · show _ < _; simp only; omega)
        · try (exfalso; first | omega | (simp only [Bool.false_eq_true, reduceCtorEq] at hc2; done) | (refine absurd hc2 ?_; with_reducible assumption) | (refine absurd ?_ hc2; with_reducible assumption))
          all_goals (
           refine K_exit ?_
           refine N_then_exit ?_
           refine N_then_exit ?_
           refine N_block_exit ?_
           refine N_then_k ?_
           refine K_seq ?_
           refine K_region ?_
           have hql := quoteB_length (s.take k)
           have htl : (s.take k).length ≤ s.length := by simp; omega
           have hqt : (34 :: quoteB (s.take k)).length ≤ 2000001 := by simp only [List.length_cons]; omega
           refine W_move rfl rfl ?_
           refine W_bslice1 hp Try.underlying32 sz5 zv5 rfl  rfl  (fun v0 => [v0]) rfl rfl rfl ?_
           clear hp; intro b36 w hp
           try simp only [List.append_nil] at hp
           rw [← List.append_nil Hs] at hp
           refine W_append_sl (A := [_]) (B := []) _ rfl hp rfl Try.underlying32 sz5 pb5 zv5 rfl rfl rfl rfl hos (Rd.own hp (by first | exact List.mem_cons_self | exact .tail _ (.head _) | exact .tail _ (.tail _ (.head _)) | exact .tail _ (.tail _ (.tail _ (.head _))) | exact .tail _ (.tail _ (.tail _ (.tail _ (.head _)))) | exact .tail _ (.tail _ (.tail _ (.tail _ (.tail _ (.head _)))))) (List.prefix_refl _)) ?_ ?_ ?_ ?_ rfl ?_
           · rfl
           · simp [Value.oneCell']
           · (simp only [maxLen]; omega)
           · omega
           clear hp; intro va37 Hs w hos hp
           replace hos := OSb.snoc (c := 34) hos
           obtain ⟨Aa37, ca37, rfl⟩ := hos.form
           refine W_conv_bs (a := 34 :: quoteB (s.take k) ++ [34]) Try.underlying32 Try.underlying5 Try.underlying9 rfl (OS.rd (A := [_]) (B := _) hos hp) rfl rfl ?_
           refine W_assign rfl rfl ?_
           refine W_assign rfl rfl ?_
           refine W_nil ?_
           refine N_then_k ?_
           refine K_ret ?_
           refine N_done2 (.inr rfl) rfl rfl rfl ?_
           refine ⟨_, rfl, ?_, hp.nil⟩
           rw [List.take_of_length_le hge]; rfl)))

theorem rquote_no (s : List UInt8) (hl : s.length ≤ 1000000) (hf : s.all fieldB = false) : PureF Try.prog 14 [.string ⟨s.toArray⟩] (.tuple #[.string ⟨#[]⟩, .bool false]) := by
  refine PureF.intro go14 Try.func14 rfl rfl fun w0 hp => ?_
  refine K_seq ?_
  refine K_region ?_
  refine W_assign rfl rfl ?_
  refine W_assign rfl rfl ?_
  refine W_nil ?_
  refine N_then_k ?_
  refine K_seq ?_
  refine K_seq ?_
  refine K_region ?_
  refine W_move rfl rfl ?_
  refine W_pcall hp rfl ((rall5_spec s (by omega)).eq (congrArg Value.bool hf)) rfl ?_
  clear hp; intro w hp
  first
    | (refine W_not_t rfl rfl ?_)
    | (refine W_not_f rfl rfl ?_)
    | (refine W_not rfl rfl ?_)
  refine W_nil ?_
  refine N_then_k ?_
  first
    | refine K_cond_d rfl (fun hc1 => ?_) (fun hc1 => ?_)
    | refine K_cond_n rfl (fun hc1 => ?_) (fun hc1 => ?_)
    | refine K_cond_nb rfl (fun hc1 => ?_) (fun hc1 => ?_)
    | refine K_cond_t rfl (fun hc1 => ?_) (fun hc1 => ?_)
  · try (exfalso; first | omega | (simp only [Bool.false_eq_true, reduceCtorEq] at hc1; done) | (refine absurd hc1 ?_; with_reducible assumption) | (refine absurd ?_ hc1; with_reducible assumption))
    all_goals (
     refine K_seq ?_
     refine K_region ?_
     refine W_assign rfl rfl ?_
     refine W_assign rfl rfl ?_
     refine W_nil ?_
     refine N_then_k ?_
     refine K_ret ?_
     refine N_then_ret ?_
     refine N_done2 (.inr rfl) rfl rfl rfl ?_
     exact ⟨_, rfl, rfl, hp.nil⟩)
  · try (exfalso; first | omega | (simp only [Bool.false_eq_true, reduceCtorEq] at hc1; done) | (refine absurd hc1 ?_; with_reducible assumption) | (refine absurd ?_ hc1; with_reducible assumption))
    all_goals (
     refine K_skip ?_
     refine N_then_k ?_
     refine K_seq ?_
     fail "not to be reached")

theorem take_at_lt {s : List UInt8} {n i : Nat} {c : UInt8} (h : s[i]? = some c) (hi : i < n) : (s.take n)[i]? = some c := by rw [List.getElem?_take_of_lt hi]; exact h
theorem strip_end {u : List UInt8} {i : Nat} (h : u.length ≤ i) : strip (u.drop i) = [] := by rw [List.drop_of_length_le h]; rfl
theorem strip_92 {u : List UInt8} {i : Nat} {c d : UInt8} (h : u[i]? = some c) (hc : c.toNat = 92) (hd : u[i + 1]? = some d) : strip (u.drop i) = d :: strip (u.drop (i + 1 + 1)) := by
  obtain rfl : c = 92 := UInt8.toNat_inj.1 hc
  rw [drop_at' h, drop_at' hd, strip, if_pos rfl]
theorem strip_one {u : List UInt8} {i : Nat} {c : UInt8} (h : u[i]? = some c) (hc : ¬ c.toNat = 92 ∨ u.length ≤ i + 1) : strip (u.drop i) = c :: strip (u.drop (i + 1)) := by
  rw [drop_at' h]
  rcases at_or' u (i + 1) with h3 | ⟨d, hd, h4⟩
  · rw [List.drop_of_length_le h3]; rfl
  · have : c ≠ 92 := fun e => by subst e; rcases hc with hc | hc; exact hc rfl; omega
    rw [drop_at' hd, strip, if_neg this]
theorem unquote_strip {s t : List UInt8} (h : unquote s = some t) : t = strip ((s.take (s.length - 1)).drop 1) := by
  obtain ⟨rfl, _⟩ := unquote_some.1 h
  have e : ((quote t).take ((quote t).length - 1)).drop 1 = quoteB t := by
    have : (quote t).length - 1 = (34 :: quoteB t).length := by simp [quote]
    rw [this]
    have : quote t = (34 :: quoteB t) ++ [34] := rfl
    rw [this, List.take_left' rfl]; rfl
  rw [e, strip_quoteB]
theorem unquote_none_of {s out : List UInt8} (ho : strip ((s.take (s.length - 1)).drop 1) = out) (h : out.all fieldB = false ∨ quote out ≠ s) : unquote s = none := by
  cases hu : unquote s with
  | none => rfl
  | some t =>
    have ht := unquote_strip hu
    rw [ho] at ht; subst ht
    obtain ⟨e, hf⟩ := unquote_some.1 hu
    rcases h with h | h
    · rw [hf] at h; cases h
    · exact absurd e.symm h

theorem runquote_spec (s : List UInt8) (hl : s.length ≤ 1000000) : PureF Try.prog 17 [.string ⟨s.toArray⟩] (.tuple #[.string ⟨((unquote s).getD []).toArray⟩, .bool (unquote s).isSome]) := by
  obtain ⟨u, hu0⟩ : ∃ u, u = s.take (s.length - 1) := ⟨_, rfl⟩
  have hul : u.length = s.length - 1 := by rw [hu0]; simp
  refine PureF.intro go17 Try.func17 rfl rfl fun w0 hp => ?_
  refine K_seq ?_
  refine K_region ?_
  refine W_assign rfl rfl ?_
  refine W_assign rfl rfl ?_
  refine W_nil ?_
  refine N_then_k ?_
  refine K_seq ?_
  refine K_seq ?_
  refine K_region ?_
  refine W_move rfl rfl ?_
  refine W_len_s Try.underlying9 rfl rfl ?_
  first
    | (refine W_lss_t rfl rfl ?_ rfl ?_; (focus (omega)))
    | (refine W_lss_f rfl rfl ?_ rfl ?_; (focus (omega)))
    | (refine W_lss rfl rfl rfl ?_)
  refine W_nil ?_
  refine N_then_k ?_
  first
    | refine K_cond_d rfl (fun hc1 => ?_) (fun hc1 => ?_)
    | refine K_cond_n rfl (fun hc1 => ?_) (fun hc1 => ?_)
    | refine K_cond_nb rfl (fun hc1 => ?_) (fun hc1 => ?_)
    | refine K_cond_t rfl (fun hc1 => ?_) (fun hc1 => ?_)
  · try (exfalso; first | omega | (simp only [Bool.false_eq_true, reduceCtorEq] at hc1; done) | (refine absurd hc1 ?_; with_reducible assumption) | (refine absurd ?_ hc1; with_reducible assumption))
    all_goals (
     refine K_seq ?_
     refine K_region ?_
     have hn : unquote s = none := unquote_short (by omega)
     refine W_assign rfl rfl ?_
     refine W_assign rfl rfl ?_
     refine W_nil ?_
     refine N_then_k ?_
     refine K_ret ?_
     refine N_then_ret ?_
     refine N_done2 (.inr rfl) rfl rfl rfl ?_
     refine ⟨_, rfl, ?_, hp.nil⟩
     first
       | (rw [hn]; rfl)
       | (rw [hy]; rfl))
  · try (exfalso; first | omega | (simp only [Bool.false_eq_true, reduceCtorEq] at hc1; done) | (refine absurd hc1 ?_; with_reducible assumption) | (refine absurd ?_ hc1; with_reducible assumption))
    all_goals (
     refine K_skip ?_
     refine N_then_k ?_
     refine K_seq ?_
     refine K_region ?_
     refine W_assign rfl rfl ?_
     refine W_nil ?_
     refine N_then_k ?_
     refine K_seq ?_
     refine K_seq ?_
     refine K_region ?_
     refine W_assign rfl rfl ?_
     refine W_nil ?_
     refine N_then_k ?_
     refine K_block ?_
     refine K_loop (σ := Nat × List UInt8 × Value × Heap) [4, 5, 11, 12, 13, 14, 15, 16, 17, 18, 19, 20, 21, 22, 23, 24, 25, 26, 27, 28, 29, 30, 31, 32, 33, 34, 35, 36, 37]
         (fun q => [(5, .int .i64 q.1), (4, q.2.2.1)])
         (fun q w => OSb 5 q.2.2.1 q.2.1 q.2.2.2 ∧ Hp w0 [] q.2.2.2 w ∧ q.1 ≤ s.length - 1 ∧ q.2.1.length ≤ q.1 ∧ strip (u.drop 1) = q.2.1 ++ strip (u.drop q.1))
         (fun q => s.length - q.1) ((1, [], .slice none 0 0, [])) ?_ ?_ ?_
     · repeat' (first | exact sub_lst_nil (sub_nil _) | refine sub_lst rfl ?_ | (refine sub_lst_eq rfl ?_ ?_; · first | rfl | (simp; done) | (congr 1; omega)))
     · exact ⟨OSb.nil, hp, by show 1 ≤ _; omega, by simp, by simp⟩
     · intro ⟨i, out, v, Hs⟩ w hJ
       clear hp
       obtain ⟨hos, hp, hle, hol, hj⟩ := hJ
       simp only at hos hp hle hol hj
       obtain ⟨Av, cv, rfl⟩ := hos.form
       rcases Nat.lt_or_ge i (s.length - 1) with hlt | hge
       all_goals (
        refine K_seq ?_
        refine K_seq ?_
        refine K_region ?_
        refine W_move rfl rfl ?_
        refine W_move rfl rfl ?_
        refine W_len_s Try.underlying9 rfl rfl ?_
        first
          | (refine W_sub rfl rfl (wr_i64 ?_) rfl ?_; (focus (omega)))
          | (refine W_sub rfl rfl rfl rfl ?_)
        first
          | (refine W_lss_t rfl rfl ?_ rfl ?_; (focus (omega)))
          | (refine W_lss_f rfl rfl ?_ rfl ?_; (focus (omega)))
          | (refine W_lss rfl rfl rfl ?_)
        refine W_nil ?_
        refine N_then_k ?_
        first
          | refine K_cond_d rfl (fun hc2 => ?_) (fun hc2 => ?_)
          | refine K_cond_n rfl (fun hc2 => ?_) (fun hc2 => ?_)
          | refine K_cond_nb rfl (fun hc2 => ?_) (fun hc2 => ?_)
          | refine K_cond_t rfl (fun hc2 => ?_) (fun hc2 => ?_)
        · try (exfalso; first | omega | (simp only [Bool.false_eq_true, reduceCtorEq] at hc2; done) | (refine absurd hc2 ?_; with_reducible assumption) | (refine absurd ?_ hc2; with_reducible assumption))
          all_goals (
           refine K_skip ?_
           refine N_then_k ?_
           refine K_seq ?_
           refine K_block ?_
           refine K_mid (σ := Nat × UInt8) [5, 18, 19, 20, 21, 22, 23, 24, 25, 26, 27, 28, 29, 30, 31]
               (fun q => [(5, .int .i64 q.1)])
               (fun q w => Hp w0 [] Hs w ∧ i ≤ q.1 ∧ q.1 < s.length - 1 ∧ s[(q.1 : Int).toNat]? = some q.2 ∧ strip (u.drop 1) = (out ++ [q.2]) ++ strip (u.drop (q.1 + 1))) ?_ ?_
           · refine K_seq ?_
             refine K_region ?_
             obtain ⟨c, hc⟩ : ∃ c, s[i]? = some c := ⟨_, List.getElem?_eq_getElem (by omega)⟩
             have hu := c.toNat_lt
             have hcu : u[i]? = some c := by rw [hu0]; exact take_at_lt hc hlt
             rcases at_or' u (i + 1) with hge2 | ⟨d, hdu, hlt2⟩
             all_goals (
              refine W_move rfl rfl ?_
              refine W_move rfl rfl ?_
              refine W_index_s Try.underlying9 rfl rfl ?_ (by first | with_reducible assumption | assumption | exact rfl | exact idx_getD (by first | omega | (simp; omega))) rfl ?_
              (focus (omega))
              first
                | (refine W_eql_t rfl rfl ?_ rfl ?_; (focus (omega)))
                | (refine W_eql_f rfl rfl ?_ rfl ?_; (focus (omega)))
                | (refine W_eql rfl rfl rfl ?_)
              refine W_move rfl rfl ?_
              first
                | refine W_guard_lit_t rfl ?_
                | refine W_guard_lit_f rfl ?_
                | refine W_guard_lit_u rfl ?_
                | refine W_guard_split_d rfl rfl rfl (fun hg3 => ?_) (fun hg3 => ?_)
                | refine W_guard_split_n rfl rfl rfl (fun hg3 => ?_) (fun hg3 => ?_)
                | refine W_guard_split_nb rfl rfl rfl (fun hg3 => ?_) (fun hg3 => ?_)
                | refine W_guard_split rfl rfl rfl (fun hg3 => ?_) (fun hg3 => ?_)
              all_goals try (exfalso; first | omega | (simp only [Bool.false_eq_true, reduceCtorEq] at hg3; done) | (refine absurd hg3 ?_; with_reducible assumption) | (refine absurd ?_ hg3; with_reducible assumption))
              all_goals (
               first
                 | (iterate 6 refine W_guard_no rfl rfl rfl ?_)
                 | (iterate 6 refine W_guard_un rfl rfl ?_)
                 | (refine W_guard_yes rfl ?_
                    refine W_move rfl rfl ?_
                    refine W_guard_yes rfl ?_
                    first
                      | (refine W_add rfl rfl (wr_i64 ?_) rfl ?_; (focus (omega)))
                      | (refine W_add rfl rfl rfl rfl ?_)
                    refine W_guard_yes rfl ?_
                    refine W_move rfl rfl ?_
                    refine W_guard_yes rfl ?_
                    refine W_len_s Try.underlying9 rfl rfl ?_
                    refine W_guard_yes rfl ?_
                    first
                      | (refine W_sub rfl rfl (wr_i64 ?_) rfl ?_; (focus (omega)))
                      | (refine W_sub rfl rfl rfl rfl ?_)
                    refine W_guard_yes rfl ?_
                    first
                      | (refine W_lss_t rfl rfl ?_ rfl ?_; (focus (omega)))
                      | (refine W_lss_f rfl rfl ?_ rfl ?_; (focus (omega)))
                      | (refine W_lss rfl rfl rfl ?_))
               first
                 | (refine W_pick_t rfl rfl rfl ?_)
                 | (refine W_pick_f rfl rfl rfl ?_)
                 | (refine W_pick_b rfl rfl rfl rfl ?_)
               refine W_nil ?_
               refine N_then_k ?_
               first
                 | refine K_cond_d rfl (fun hc4 => ?_) (fun hc4 => ?_)
                 | refine K_cond_n rfl (fun hc4 => ?_) (fun hc4 => ?_)
                 | refine K_cond_nb rfl (fun hc4 => ?_) (fun hc4 => ?_)
                 | refine K_cond_t rfl (fun hc4 => ?_) (fun hc4 => ?_)
               · try (exfalso; first | omega | (simp only [Bool.false_eq_true, reduceCtorEq] at hc4; done) | (refine absurd hc4 ?_; with_reducible assumption) | (refine absurd ?_ hc4; with_reducible assumption))
                 all_goals (
                  refine K_region ?_
                  refine W_move rfl rfl ?_
                  first
                    | (refine W_add rfl rfl (wr_i64 ?_) rfl ?_; (focus (omega)))
                    | (refine W_add rfl rfl rfl rfl ?_)
                  refine W_assign rfl rfl ?_
                  refine W_nil ?_
                  first
                    | (refine N_mid (i + 1, d) (sub_end ?_ ?_) ⟨hp, Nat.le_succ _, by omega, ?_, ?_⟩
                       · repeat' (first | exact sub_lst_nil (sub_nil _) | refine sub_lst rfl ?_ | (refine sub_lst_eq rfl ?_ ?_; · first | rfl | (simp; done) | (congr 1; omega)))
                       · repeat' (first | exact sub_refl _ | exact sub_strip _ _ | refine sub_s_cons rfl ?_ | refine sub_s_lst rfl ?_ | refine sub_s_strip rfl ?_)
                       · rw [hu0, List.getElem?_take_of_lt (by omega)] at hdu; exact hdu
                       · rw [hj, strip_92 hcu (by omega) hdu]; simp)
                    | (refine N_mid (i, c) (sub_end ?_ ?_) ⟨hp, Nat.le_refl _, hlt, hc, ?_⟩
                       · repeat' (first | exact sub_lst_nil (sub_nil _) | refine sub_lst rfl ?_ | (refine sub_lst_eq rfl ?_ ?_; · first | rfl | (simp; done) | (congr 1; omega)))
                       · repeat' (first | exact sub_refl _ | exact sub_strip _ _ | refine sub_s_cons rfl ?_ | refine sub_s_lst rfl ?_ | refine sub_s_strip rfl ?_)
                       · rw [hj, strip_one hcu (by first | exact .inr hge2 | (left; omega))]; simp))
               · try (exfalso; first | omega | (simp only [Bool.false_eq_true, reduceCtorEq] at hc4; done) | (refine absurd hc4 ?_; with_reducible assumption) | (refine absurd ?_ hc4; with_reducible assumption))
                 all_goals (
                  refine K_skip ?_
                  first
                    | (refine N_mid (i + 1, d) (sub_end ?_ ?_) ⟨hp, Nat.le_succ _, by omega, ?_, ?_⟩
                       · repeat' (first | exact sub_lst_nil (sub_nil _) | refine sub_lst rfl ?_ | (refine sub_lst_eq rfl ?_ ?_; · first | rfl | (simp; done) | (congr 1; omega)))
                       · repeat' (first | exact sub_refl _ | exact sub_strip _ _ | refine sub_s_cons rfl ?_ | refine sub_s_lst rfl ?_ | refine sub_s_strip rfl ?_)
                       · rw [hu0, List.getElem?_take_of_lt (by omega)] at hdu; exact hdu
                       · rw [hj, strip_92 hcu (by omega) hdu]; simp)
                    | (refine N_mid (i, c) (sub_end ?_ ?_) ⟨hp, Nat.le_refl _, hlt, hc, ?_⟩
                       · repeat' (first | exact sub_lst_nil (sub_nil _) | refine sub_lst rfl ?_ | (refine sub_lst_eq rfl ?_ ?_; · first | rfl | (simp; done) | (congr 1; omega)))
                       · repeat' (first | exact sub_refl _ | exact sub_strip _ _ | refine sub_s_cons rfl ?_ | refine sub_s_lst rfl ?_ | refine sub_s_strip rfl ?_)
                       · rw [hj, strip_one hcu (by first | exact .inr hge2 | (left; omega))]; simp))))
           · intro ⟨i2, x⟩ w hJ
             clear hp
             obtain ⟨hp, hi1, hi2, hx, hj2⟩ := hJ
             simp only at hi1 hi2 hx hj2
             refine K_region ?_
             refine W_move rfl rfl ?_
             refine W_move rfl rfl ?_
             refine W_move rfl rfl ?_
             refine W_index_s Try.underlying9 rfl rfl (by omega) hx rfl ?_
             refine W_bslice1 hp Try.underlying32 sz5 zv5 rfl  rfl  (fun v0 => [v0]) rfl rfl rfl ?_
             clear hp; intro b36 w hp
             try simp only [List.append_nil] at hp
             rw [← List.append_nil Hs] at hp
             refine W_append_sl (A := [_]) (B := []) _ rfl hp rfl Try.underlying32 sz5 pb5 zv5 rfl rfl rfl rfl hos (Rd.own hp (by first | exact List.mem_cons_self | exact .tail _ (.head _) | exact .tail _ (.tail _ (.head _)) | exact .tail _ (.tail _ (.tail _ (.head _))) | exact .tail _ (.tail _ (.tail _ (.tail _ (.head _)))) | exact .tail _ (.tail _ (.tail _ (.tail _ (.tail _ (.head _)))))) (List.prefix_refl _)) ?_ ?_ ?_ ?_ rfl ?_
             · rfl
             · simp [Value.oneCell']
             · (simp only [maxLen]; omega)
             · omega
             clear hp; intro va37 Hs w hos hp
             replace hos := OSb.snoc (c := x) hos
             obtain ⟨Aa37, ca37, rfl⟩ := hos.form
             refine W_assign rfl rfl ?_
             refine W_nil ?_
             refine N_block_normal ?_
             refine N_then_k ?_
             refine K_region ?_
             refine W_move rfl rfl ?_
             first
               | (refine W_add rfl rfl (wr_i64 ?_) rfl ?_; (focus (omega)))
               | (refine W_add rfl rfl rfl rfl ?_)
             refine W_assign rfl rfl ?_
             refine W_nil ?_
             refine N_again ((i2 + 1, out ++ [x], .slice Aa37 (out ++ [x]).length ca37, Hs)) (sub_end ?_ ?_) ?_ ?_
             · repeat' (first | exact sub_lst_nil (sub_nil _) | refine sub_lst rfl ?_ | (refine sub_lst_eq rfl ?_ ?_; · first | rfl | (simp; done) | (congr 1; omega)))
             · repeat' (first | exact sub_refl _ | exact sub_strip _ _ | refine sub_s_cons rfl ?_ | refine sub_s_lst rfl ?_ | refine sub_s_strip rfl ?_)
             · exact ⟨hos, by simpa using hp.drop (List.sublist_cons_self _ _), hi2, by simp; omega, hj2⟩
             · show _ < _; simp only; omega)
        · try (exfalso; first | omega | (simp only [Bool.false_eq_true, reduceCtorEq] at hc2; done) | (refine absurd hc2 ?_; with_reducible assumption) | (refine absurd ?_ hc2; with_reducible assumption))
          all_goals (
           refine K_exit ?_
           refine N_then_exit ?_
           refine N_then_exit ?_
           refine N_block_exit ?_
           refine N_then_k ?_
           refine K_seq ?_
           refine K_region ?_
           have hso : strip (u.drop 1) = out := by rw [hj, strip_end (by omega), List.append_nil]
           rw [hu0] at hso
           rcases Bool.eq_false_or_eq_true (out.all fieldB) with hf | hf
           all_goals (
            refine W_move rfl rfl ?_
            refine W_conv_bs (a := out) Try.underlying32 Try.underlying5 Try.underlying9 rfl (OS.rd (A := []) (B := []) hos (by simpa using hp)) rfl rfl ?_
            first
              | (refine W_pcall hp rfl (rquote_ok out (by omega) hf) rfl ?_)
              | (refine W_pcall hp rfl (rquote_no out (by omega) hf) rfl ?_)
            clear hp; intro w hp
            refine W_move rfl rfl ?_
            refine W_extract rfl rfl rfl ?_
            refine W_extract rfl rfl rfl ?_
            refine W_assign rfl rfl ?_
            refine W_assign rfl rfl ?_
            refine W_nil ?_
            refine N_then_k ?_
            refine K_seq ?_
            refine K_seq ?_
            refine K_region ?_
            by_cases hqs : quote out = s
            all_goals (
             refine W_move rfl rfl ?_
             first
               | (refine W_not_t rfl rfl ?_)
               | (refine W_not_f rfl rfl ?_)
               | (refine W_not rfl rfl ?_)
             refine W_move rfl rfl ?_
             first
               | refine W_guard_lit_t rfl ?_
               | refine W_guard_lit_f rfl ?_
               | refine W_guard_lit_u rfl ?_
               | refine W_guard_split_d rfl rfl rfl (fun hg5 => ?_) (fun hg5 => ?_)
               | refine W_guard_split_n rfl rfl rfl (fun hg5 => ?_) (fun hg5 => ?_)
               | refine W_guard_split_nb rfl rfl rfl (fun hg5 => ?_) (fun hg5 => ?_)
               | refine W_guard_split rfl rfl rfl (fun hg5 => ?_) (fun hg5 => ?_)
             all_goals try (exfalso; first | omega | (simp only [Bool.false_eq_true, reduceCtorEq] at hg5; done) | (refine absurd hg5 ?_; with_reducible assumption) | (refine absurd ?_ hg5; with_reducible assumption))
             all_goals (
              first
                | (iterate 3 refine W_guard_no rfl rfl rfl ?_)
                | (iterate 3 refine W_guard_un rfl rfl ?_)
                | (refine W_guard_yes rfl ?_
                   refine W_move rfl rfl ?_
                   refine W_guard_yes rfl ?_
                   refine W_move rfl rfl ?_
                   refine W_guard_yes rfl ?_
                   first
                     | (refine W_sneq_f rfl rfl ?_ rfl ?_; (focus (first | rfl | assumption)))
                     | (refine W_sneq_t rfl rfl ?_ rfl ?_; (focus (first | assumption | decide | exact List.cons_ne_nil _ _)))
                     | (refine W_sneq rfl rfl rfl ?_))
              first
                | (refine W_pick_t rfl rfl rfl ?_)
                | (refine W_pick_f rfl rfl rfl ?_)
                | (refine W_pick_b rfl rfl rfl rfl ?_)
              refine W_nil ?_
              refine N_then_k ?_
              first
                | refine K_cond_d rfl (fun hc6 => ?_) (fun hc6 => ?_)
                | refine K_cond_n rfl (fun hc6 => ?_) (fun hc6 => ?_)
                | refine K_cond_nb rfl (fun hc6 => ?_) (fun hc6 => ?_)
                | refine K_cond_t rfl (fun hc6 => ?_) (fun hc6 => ?_)
              · try (exfalso; first | omega | (simp only [Bool.false_eq_true, reduceCtorEq] at hc6; done) | (refine absurd hc6 ?_; with_reducible assumption) | (refine absurd ?_ hc6; with_reducible assumption))
                all_goals (
                 refine K_seq ?_
                 refine K_region ?_
                 have hn : unquote s = none := by first | exact unquote_none_of hso (.inl hf) | exact unquote_none_of hso (.inr hqs)
                 refine W_assign rfl rfl ?_
                 refine W_assign rfl rfl ?_
                 refine W_nil ?_
                 refine N_then_k ?_
                 refine K_ret ?_
                 refine N_then_ret ?_
                 refine N_done2 (.inr rfl) rfl rfl rfl ?_
                 refine ⟨_, rfl, ?_, hp.nil⟩
                 first
                   | (rw [hn]; rfl)
                   | (rw [hy]; rfl))
              · try (exfalso; first | omega | (simp only [Bool.false_eq_true, reduceCtorEq] at hc6; done) | (refine absurd hc6 ?_; with_reducible assumption) | (refine absurd ?_ hc6; with_reducible assumption))
                all_goals (
                 refine K_skip ?_
                 refine N_then_k ?_
                 refine K_seq ?_
                 refine K_region ?_
                 have hy : unquote s = some out := unquote_some.2 ⟨hqs.symm, hf⟩
                 refine W_move rfl rfl ?_
                 refine W_conv_bs (a := out) Try.underlying32 Try.underlying5 Try.underlying9 rfl (OS.rd (A := []) (B := []) hos (by simpa using hp)) rfl rfl ?_
                 refine W_assign rfl rfl ?_
                 refine W_assign rfl rfl ?_
                 refine W_nil ?_
                 refine N_then_k ?_
                 refine K_ret ?_
                 refine N_done2 (.inr rfl) rfl rfl rfl ?_
                 refine ⟨_, rfl, ?_, hp.nil⟩
                 first
                   | (rw [hn]; rfl)
                   | (rw [hy]; rfl))))))))

end Go.Proofs.Ytaeelnggnpeihaa
