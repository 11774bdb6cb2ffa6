/-
  Law EqualOne, walked: whatever the list and the text, the law returns true and turns nothing that was there.
-/
import Derived.Test.YtpeefiakmidkcaaEqLaws
namespace Go.Proofs.Ytpeefiakmidkcaa
open Go.Sx Go.RowKit
set_option linter.unusedVariables false
set_option linter.unusedSimpArgs false
set_option maxRecDepth 100000

theorem EqualOne_walk (L : List (List UInt8)) (s : List UInt8) (lv : Value) (w : World) (hR : Rd w lv L.length (L.map strV)) : PureAt Try.prog 5 [lv, .string ⟨s.toArray⟩] (.bool true) w := by
  obtain ⟨A, c, rfl, hR'⟩ := id hR
  refine PureAt.intro go5 Try.func5 rfl rfl fun hp => ?_
  generalize w = w0 at hR hp
  have w := w0
  refine K_seq ?_
  refine K_region ?_
  refine W_assign rfl rfl ?_
  refine W_nil ?_
  refine N_then_k ?_
  refine K_seq ?_
  refine K_seq ?_
  refine K_region ?_
  refine W_pcall hp rfl (awake_spec) rfl ?_
  clear hp; intro w hp
  first
    | (refine W_not_t rfl rfl ?_)
    | (refine W_not_f rfl rfl ?_)
    | (refine W_not rfl rfl ?_)
  refine W_move rfl rfl ?_
  first
    | refine W_guard_lit_t rfl ?_
    | refine W_guard_lit_f rfl ?_
    | refine W_guard_split rfl rfl rfl (fun hg1 => ?_) (fun hg1 => ?_)
  all_goals (
    try simp only [decide_eq_true_eq, decide_eq_false_iff_not, Bool.not_eq_true', Bool.not_eq_false', Bool.and_eq_true, Bool.or_eq_true, Bool.and_eq_false_iff, Bool.or_eq_false_iff, Bool.false_eq_true, Bool.true_eq_false, reduceCtorEq] at hg1
    try (exfalso; first | contradiction | omega))
  all_goals (
    first
      | (refine W_guard_yes rfl ?_
         refine W_move rfl rfl ?_)
      | (refine W_guard_no rfl rfl rfl ?_)
    first
      | (refine W_guard_yes rfl ?_
         refine W_len_sl Try.underlying32 rfl rfl ?_)
      | (refine W_guard_no rfl rfl rfl ?_)
    first
      | (refine W_guard_yes rfl ?_
         first
           | (refine W_gtr_t rfl rfl ?_ rfl ?_; (focus (omega)))
           | (refine W_gtr_f rfl rfl ?_ rfl ?_; (focus (omega)))
           | (refine W_gtr rfl rfl rfl ?_))
      | (refine W_guard_no rfl rfl rfl ?_)
    first
      | (refine W_pick_t rfl rfl rfl ?_)
      | (refine W_pick_f rfl rfl rfl ?_)
      | (refine W_pick_b rfl rfl rfl rfl ?_)
    refine W_move rfl rfl ?_
    first
      | refine W_guard_lit_t rfl ?_
      | refine W_guard_lit_f rfl ?_
      | refine W_guard_split rfl rfl rfl (fun hg2 => ?_) (fun hg2 => ?_)
    all_goals (
      try simp only [decide_eq_true_eq, decide_eq_false_iff_not, Bool.not_eq_true', Bool.not_eq_false', Bool.and_eq_true, Bool.or_eq_true, Bool.and_eq_false_iff, Bool.or_eq_false_iff, Bool.false_eq_true, Bool.true_eq_false, reduceCtorEq] at hg2
      try (exfalso; first | contradiction | omega))
    all_goals (
      first
        | (refine W_guard_yes rfl ?_
           refine W_move rfl rfl ?_)
        | (refine W_guard_no rfl rfl rfl ?_)
      first
        | (refine W_guard_yes rfl ?_
           refine W_len_s Try.underlying9 rfl rfl ?_)
        | (refine W_guard_no rfl rfl rfl ?_)
      first
        | (refine W_guard_yes rfl ?_
           first
             | (refine W_gtr_t rfl rfl ?_ rfl ?_; (focus (omega)))
             | (refine W_gtr_f rfl rfl ?_ rfl ?_; (focus (omega)))
             | (refine W_gtr rfl rfl rfl ?_))
        | (refine W_guard_no rfl rfl rfl ?_)
      first
        | (refine W_pick_t rfl rfl rfl ?_)
        | (refine W_pick_f rfl rfl rfl ?_)
        | (refine W_pick_b rfl rfl rfl rfl ?_)
      refine W_nil ?_
      refine N_then_k ?_
      refine K_cond rfl (fun hc3 => ?_) (fun hc3 => ?_)
      · try simp only [decide_eq_true_eq, decide_eq_false_iff_not, Bool.not_eq_true', Bool.not_eq_false', Bool.and_eq_true, Bool.or_eq_true, Bool.and_eq_false_iff, Bool.or_eq_false_iff, Bool.false_eq_true, Bool.true_eq_false, reduceCtorEq] at hc3
        try (exfalso; first | contradiction | omega)
        all_goals (
          refine K_seq ?_
          refine K_region ?_
          refine W_pcall hp rfl (awake_spec) rfl ?_
          clear hp; intro w hp
          refine W_assign rfl rfl ?_
          refine W_nil ?_
          refine N_then_k ?_
          refine K_ret ?_
          refine N_then_ret ?_
          refine N_done1 (.inr rfl) rfl rfl ?_
          exact ⟨_, rfl, rfl, hp.nil⟩)
      · try simp only [decide_eq_true_eq, decide_eq_false_iff_not, Bool.not_eq_true', Bool.not_eq_false', Bool.and_eq_true, Bool.or_eq_true, Bool.and_eq_false_iff, Bool.or_eq_false_iff, Bool.false_eq_true, Bool.true_eq_false, reduceCtorEq] at hc3
        try (exfalso; first | contradiction | omega)
        all_goals (
          refine K_skip ?_
          refine N_then_k ?_
          refine K_seq ?_
          refine K_seq ?_
          refine K_region ?_
          refine W_assign rfl rfl ?_
          refine W_nil ?_
          refine N_then_k ?_
          refine K_block ?_
          refine K_loop (σ := Nat) [4, 5, 19, 20, 21, 22, 23, 24, 25, 26, 27, 28, 29, 30]
              (fun k => [(5, .int .i64 k)])
              (fun k w => Hp w0 [] [] w ∧ k ≤ L.length ∧ ∀ i, i < k → ∀ x, L[i]? = some x → x.length ≤ 300)
              (fun k => L.length - k) (0) ?_ ?_ ?_
          · repeat' (first | exact sub_lst_nil (sub_nil _) | refine sub_lst rfl ?_ | (refine sub_lst_eq rfl ?_ ?_; · first | rfl | (simp; done) | (congr 1; omega)))
          · exact ⟨hp, Nat.zero_le _, fun i hi => by omega⟩
          · intro k w hJ
            clear hp
            obtain ⟨hp, hle, hall⟩ := hJ
            rcases (Nat.lt_or_ge k L.length).imp id (fun h => Nat.le_antisymm hle h) with hlt | rfl
            all_goals (
              refine K_seq ?_
              refine K_seq ?_
              refine K_region ?_
              refine W_move rfl rfl ?_
              refine W_move rfl rfl ?_
              refine W_len_sl Try.underlying32 rfl rfl ?_
              first
                | (refine W_lss_t rfl rfl ?_ rfl ?_; (focus (omega)))
                | (refine W_lss_f rfl rfl ?_ rfl ?_; (focus (omega)))
                | (refine W_lss rfl rfl rfl ?_)
              refine W_nil ?_
              refine N_then_k ?_
              refine K_cond rfl (fun hc4 => ?_) (fun hc4 => ?_)
              · try simp only [decide_eq_true_eq, decide_eq_false_iff_not, Bool.not_eq_true', Bool.not_eq_false', Bool.and_eq_true, Bool.or_eq_true, Bool.and_eq_false_iff, Bool.or_eq_false_iff, Bool.false_eq_true, Bool.true_eq_false, reduceCtorEq] at hc4
                try (exfalso; first | contradiction | omega)
                all_goals (
                  refine K_skip ?_
                  refine N_then_k ?_
                  refine K_seq ?_
                  refine K_block ?_
                  refine K_seq ?_
                  refine K_region ?_
                  refine W_move rfl rfl ?_
                  refine W_move rfl rfl ?_
                  obtain ⟨x, hx⟩ : ∃ x, L[k]? = some x := ⟨_, List.getElem?_eq_getElem hlt⟩
                  obtain ⟨b, o, rfl⟩ := hR.some (by simp; intro h; simp [h] at hlt)
                  have hcx := hR.cell (strV_at hx)
                  refine W_indexAddr_sl Try.underlying32 sz9 rfl rfl ?_ ?_ rfl ?_
                  (focus (omega))
                  (focus (first | omega | (simp; omega)))
                  refine W_load_s Try.underlying9 rfl rfl (by exact hp.cell_old0 (by simpa using hcx)) rfl ?_
                  refine W_len_s Try.underlying9 rfl rfl ?_
                  first
                    | (refine W_gtr_t rfl rfl ?_ rfl ?_; (focus (omega)))
                    | (refine W_gtr_f rfl rfl ?_ rfl ?_; (focus (omega)))
                    | (refine W_gtr rfl rfl rfl ?_)
                  refine W_nil ?_
                  refine N_then_k ?_
                  refine K_cond rfl (fun hc5 => ?_) (fun hc5 => ?_)
                  · try simp only [decide_eq_true_eq, decide_eq_false_iff_not, Bool.not_eq_true', Bool.not_eq_false', Bool.and_eq_true, Bool.or_eq_true, Bool.and_eq_false_iff, Bool.or_eq_false_iff, Bool.false_eq_true, Bool.true_eq_false, reduceCtorEq] at hc5
                    try (exfalso; first | contradiction | omega)
                    all_goals (
                      refine K_seq ?_
                      refine K_region ?_
                      refine W_assign rfl rfl ?_
                      refine W_nil ?_
                      refine N_then_k ?_
                      refine K_ret ?_
                      refine N_block_ret ?_
                      refine N_then_ret ?_
                      refine N_then_ret ?_
                      refine N_block_ret ?_
                      refine N_then_ret ?_
                      refine N_done1 (.inr rfl) rfl rfl ?_
                      exact ⟨_, rfl, rfl, hp.nil⟩)
                  · try simp only [decide_eq_true_eq, decide_eq_false_iff_not, Bool.not_eq_true', Bool.not_eq_false', Bool.and_eq_true, Bool.or_eq_true, Bool.and_eq_false_iff, Bool.or_eq_false_iff, Bool.false_eq_true, Bool.true_eq_false, reduceCtorEq] at hc5
                    try (exfalso; first | contradiction | omega)
                    all_goals (
                      refine K_skip ?_
                      refine N_block_normal ?_
                      refine N_then_k ?_
                      refine K_region ?_
                      refine W_move rfl rfl ?_
                      first
                        | (refine W_add rfl rfl (wr_i64 ?_) rfl ?_; (focus (omega)))
                        | (refine W_add rfl rfl rfl rfl ?_)
                      refine W_assign rfl rfl ?_
                      refine W_nil ?_
                      refine N_again (k + 1) (sub_end ?_ ?_) ?_ ?_
                      · repeat' (first | exact sub_lst_nil (sub_nil _) | refine sub_lst rfl ?_ | (refine sub_lst_eq rfl ?_ ?_; · first | rfl | (simp; done) | (congr 1; omega)))
                      · repeat' (first | exact sub_refl _ | exact sub_strip _ _ | refine sub_s_cons rfl ?_ | refine sub_s_lst rfl ?_ | refine sub_s_strip rfl ?_)
                      · refine ⟨hp, hlt, fun i hi y hy => ?_⟩
                        rcases Nat.lt_or_ge i k with h | h
                        · exact hall i h y hy
                        · obtain rfl : i = k := by omega
                          rw [hx] at hy; obtain rfl := Option.some.inj hy; omega
                      · omega))
              · try simp only [decide_eq_true_eq, decide_eq_false_iff_not, Bool.not_eq_true', Bool.not_eq_false', Bool.and_eq_true, Bool.or_eq_true, Bool.and_eq_false_iff, Bool.or_eq_false_iff, Bool.false_eq_true, Bool.true_eq_false, reduceCtorEq] at hc4
                try (exfalso; first | contradiction | omega)
                all_goals (
                  refine K_exit ?_
                  refine N_then_exit ?_
                  refine N_then_exit ?_
                  refine N_block_exit ?_
                  refine N_then_k ?_
                  refine K_seq ?_
                  refine K_region ?_
                  refine W_move rfl rfl ?_
                  refine W_move rfl rfl ?_
                  refine W_acall hp rfl (one_spec L s _ (fun i x h => by have := hall i (List.getElem?_eq_some_iff.1 h).1 x h; omega) (by omega) (by omega) _ (hR.keep hp)) rfl ?_
                  clear hp; intro w hp
                  refine W_move rfl rfl ?_
                  refine W_move rfl rfl ?_
                  refine W_acall hp rfl (refone_spec L s _ (by omega) _ (hR.keep hp)) rfl ?_
                  clear hp; intro w hp
                  first
                    | (refine W_eql_t rfl rfl ?_ rfl ?_; (focus (omega)))
                    | (refine W_eql_f rfl rfl ?_ rfl ?_; (focus (omega)))
                    | (refine W_eql rfl rfl rfl ?_)
                  refine W_move rfl rfl ?_
                  first
                    | refine W_guard_lit_t rfl ?_
                    | refine W_guard_lit_f rfl ?_
                    | refine W_guard_split rfl rfl rfl (fun hg6 => ?_) (fun hg6 => ?_)
                  all_goals (
                    try simp only [decide_eq_true_eq, decide_eq_false_iff_not, Bool.not_eq_true', Bool.not_eq_false', Bool.and_eq_true, Bool.or_eq_true, Bool.and_eq_false_iff, Bool.or_eq_false_iff, Bool.false_eq_true, Bool.true_eq_false, reduceCtorEq] at hg6
                    try (exfalso; first | contradiction | omega))
                  all_goals (
                    first
                      | (refine W_guard_yes rfl ?_
                         refine W_bslice0 hp Try.underlying32 sz9 zv9   ([]) rfl rfl rfl ?_
                         clear hp; intro b39 w hp)
                      | (refine W_guard_no rfl rfl rfl ?_)
                    first
                      | (refine W_guard_yes rfl ?_
                         refine W_move rfl rfl ?_)
                      | (refine W_guard_no rfl rfl rfl ?_)
                    have hos := OS.lit (e := 9) (sz := 1) (b := b39) (k := 0) (cs := []) rfl (by decide)
                    have hrw := hR.keep hp
                    first
                      | (refine W_guard_yes rfl ?_
                         refine W_append_sl (A := []) (B := []) _ rfl hp rfl Try.underlying32 sz9 pb9 zv9 rfl rfl rfl rfl hos (hR.keep hp) ?_ ?_ ?_ ?_ rfl ?_
                         · simp
                         · (intro u hu; obtain ⟨x, _, rfl⟩ := List.mem_map.1 hu; rfl)
                         · (simp only [maxLen]; omega)
                         · omega
                         clear hp; intro va41 Hs w hos hp
                         obtain ⟨Aa41, ca41, rfl⟩ := hos.form)
                      | (refine W_guard_no rfl rfl rfl ?_)
                    first
                      | (refine W_guard_yes rfl ?_
                         refine W_move rfl rfl ?_)
                      | (refine W_guard_no rfl rfl rfl ?_)
                    first
                      | (refine W_guard_yes rfl ?_
                         refine W_bslice1 hp Try.underlying32 sz9 zv9 rfl  rfl  (fun v0 => [v0]) rfl rfl rfl ?_
                         clear hp; intro b43 w hp)
                      | (refine W_guard_no rfl rfl rfl ?_)
                    have hp : Hp w0 [] ([(b43, .cells [.string ⟨s.toArray⟩].toArray 9)] ++ (Hs ++ [])) w := by simpa using hp
                    first
                      | (refine W_guard_yes rfl ?_
                         refine W_append_sl (A := [_]) (B := []) _ rfl hp rfl Try.underlying32 sz9 pb9 zv9 rfl rfl rfl rfl hos (Rd.own hp (by first | exact List.mem_cons_self | exact .tail _ (.head _) | exact .tail _ (.tail _ (.head _)) | exact .tail _ (.tail _ (.tail _ (.head _))) | exact .tail _ (.tail _ (.tail _ (.tail _ (.head _)))) | exact .tail _ (.tail _ (.tail _ (.tail _ (.tail _ (.head _)))))) (List.prefix_refl _)) ?_ ?_ ?_ ?_ rfl ?_
                         · rfl
                         · simp [Value.oneCell']
                         · (simp only [maxLen]; omega)
                         · omega
                         clear hp; intro va44 Hs w hos hp
                         obtain ⟨Aa44, ca44, rfl⟩ := hos.form)
                      | (refine W_guard_no rfl rfl rfl ?_)
                    have hall2 : ∀ (i : Nat) x, (L ++ [s])[i]? = some x → x.length ≤ 1000000 := by
                      intro i x h
                      rcases List.mem_append.1 (List.mem_of_getElem? h) with h | h
                      · obtain ⟨j, hj⟩ := List.mem_iff_getElem?.1 h
                        have := hall j (List.getElem?_eq_some_iff.1 hj).1 x hj
                        omega
                      · simp at h; subst h; omega
                    have hrd2 : Rd w (.slice Aa44 (0 + L.length + 1) ca44) (L ++ [s]).length ((L ++ [s]).map strV) := by
                      have := hos.rd (A := [(b43, .cells [.string ⟨s.toArray⟩].toArray 9)]) (B := []) hp
                      simpa [strV] using this
                    first
                      | (refine W_guard_yes rfl ?_
                         refine W_move rfl rfl ?_)
                      | (refine W_guard_no rfl rfl rfl ?_)
                    first
                      | (refine W_guard_yes rfl ?_
                         refine W_acall hp rfl (one_spec (L ++ [s]) s _ hall2 (by omega) (by simp; omega) _ hrd2) rfl ?_
                         clear hp; intro w hp)
                      | (refine W_guard_no rfl rfl rfl ?_)
                    have hfound := oneF_found L s
                    first
                      | (refine W_guard_yes rfl ?_
                         first
                           | (refine W_geq_t rfl rfl ?_ rfl ?_; (focus (omega)))
                           | (refine W_geq_f rfl rfl ?_ rfl ?_; (focus (omega)))
                           | (refine W_geq rfl rfl rfl ?_))
                      | (refine W_guard_no rfl rfl rfl ?_)
                    first
                      | (refine W_pick_t rfl rfl rfl ?_)
                      | (refine W_pick_f rfl rfl rfl ?_)
                      | (refine W_pick_b rfl rfl rfl rfl ?_)
                    refine W_assign rfl rfl ?_
                    refine W_nil ?_
                    refine N_then_k ?_
                    refine K_ret ?_
                    refine N_done1 (.inr rfl) rfl rfl ?_
                    exact ⟨_, rfl, rfl, hp.nil⟩))))))

end Go.Proofs.Ytpeefiakmidkcaa
