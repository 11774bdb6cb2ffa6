/-
  Right, and salted passwords, walked.
-/
import Derived.Test.YtpkcoeocdimjoaaDoorShaX
import Derived.Test.YtpkcoeocdimjoaaDoorShaU
import Derived.Test.YtpkcoeocdimjoaaDoorJoi
namespace Go.Proofs.YtpkcoeocdimjoaaDoor
open Go.Sx Go.RowKit
set_option linter.unusedVariables false
set_option linter.unusedSimpArgs false
set_option maxRecDepth 100000

theorem Roots.keep {w0 w : World} {F : Heap} (h : Roots w0) (hp : Hp w0 [] F w) : Roots w := fun i hi => hp.cell_old0 (h i hi)
theorem right_bad {s : List UInt8} {k : Nat} {c : UInt8} (hc : s[k]? = some c) (h : hexI c.toNat < 0 ∨ 65 ≤ c.toNat ∧ c.toNat ≤ 70) : rightB s = false := by
  unfold rightB
  rw [all_not hc]; rfl
  unfold lowHex
  exact decide_eq_false (by omega)
theorem joinB_salt (a b c : List UInt8) : joinB [58] [a, b, c] = saltB a b c := by simp [joinB, saltB]
theorem saltB_length (a b c : List UInt8) : (saltB a b c).length = a.length + b.length + c.length + 2 := by simp [saltB]; omega

theorem isright_spec (s : List UInt8) (hl : s.length ≤ 9000000000000000000) : PureF Tryd.prog 15 [.string ⟨s.toArray⟩] (.bool (rightB s)) := by
  refine PureF.intro go15 Tryd.func15 rfl rfl fun w0 hp => ?_
  refine K_seq ?_
  refine K_region ?_
  refine W_assign rfl rfl ?_
  refine W_nil ?_
  refine N_then_k ?_
  refine K_seq ?_
  refine K_seq ?_
  refine K_region ?_
  refine W_assign rfl rfl ?_
  refine W_nil ?_
  refine N_then_k ?_
  refine K_block ?_
  refine K_loop (σ := Nat) [2, 3, 4, 5, 6, 7, 8, 9, 10, 11, 12, 13, 14, 15, 16, 17, 18, 19, 20, 21, 22, 23, 24, 25, 26]
      (fun k => [(3, .int .i64 k)])
      (fun k w => Hp w0 [] [] w ∧ k ≤ s.length ∧ (s.take k).all lowHex = true)
      (fun k => s.length - k) (0) ?_ ?_ ?_
  · repeat' (first | exact sub_lst_nil (sub_nil _) | refine sub_lst rfl ?_ | (refine sub_lst_eq rfl ?_ ?_; · first | rfl | (simp; done) | (congr 1; omega)))
  · exact ⟨hp, Nat.zero_le _, by simp⟩
  · intro k w hJ
    clear hp
    obtain ⟨hp, hle, ha⟩ := hJ
    rcases Nat.lt_or_ge k (s.length) with hlt | hge
    all_goals (
     refine K_seq ?_
     refine K_seq ?_
     refine K_region ?_
     refine W_move rfl rfl ?_
     refine W_move rfl rfl ?_
     refine W_len_s Tryd.underlying9 rfl rfl ?_
     first
       | (refine W_lss_t rfl rfl ?_ rfl ?_; (focus (omega)))
       | (refine W_lss_f rfl rfl ?_ rfl ?_; (focus (omega)))
       | (refine W_lss rfl rfl rfl ?_)
     refine W_nil ?_
     refine N_then_k ?_
     first
       | refine K_cond_d rfl (fun hc1 => ?_) (fun hc1 => ?_)
       | refine K_cond_n rfl (fun hc1 => ?_) (fun hc1 => ?_)
       | refine K_cond_nb rfl (fun hc1 => ?_) (fun hc1 => ?_)
       | refine K_cond_t rfl (fun hc1 => ?_) (fun hc1 => ?_)
     · try (exfalso; first | omega | (simp only [Bool.false_eq_true, reduceCtorEq] at hc1; done) | (refine absurd hc1 ?_; with_reducible assumption) | (refine absurd ?_ hc1; with_reducible assumption))
       all_goals (
        refine K_skip ?_
        refine N_then_k ?_
        refine K_seq ?_
        refine K_block ?_
        refine K_seq ?_
        refine K_region ?_
        obtain ⟨c, hc⟩ : ∃ c, s[k]? = some c := ⟨_, List.getElem?_eq_getElem hlt⟩
        have hc16 := hexI_range c.toNat
        have hu := c.toNat_lt
        refine W_move rfl rfl ?_
        refine W_move rfl rfl ?_
        refine W_index_s Tryd.underlying9 rfl rfl ?_ (by first | with_reducible assumption | assumption | exact rfl | exact idx_getD (by first | omega | (simp; omega))) rfl ?_
        (focus (omega))
        refine W_pcall hp rfl (rhex_spec c) rfl ?_
        clear hp; intro w hp
        first
          | (refine W_lss_t rfl rfl ?_ rfl ?_; (focus (omega)))
          | (refine W_lss_f rfl rfl ?_ rfl ?_; (focus (omega)))
          | (refine W_lss rfl rfl rfl ?_)
        refine W_move rfl rfl ?_
        first
          | refine W_guard_lit_t rfl ?_
          | refine W_guard_lit_f rfl ?_
          | refine W_guard_lit_u rfl ?_
          | refine W_guard_split_d rfl rfl rfl (fun hg2 => ?_) (fun hg2 => ?_)
          | refine W_guard_split_n rfl rfl rfl (fun hg2 => ?_) (fun hg2 => ?_)
          | refine W_guard_split_nb rfl rfl rfl (fun hg2 => ?_) (fun hg2 => ?_)
          | refine W_guard_split rfl rfl rfl (fun hg2 => ?_) (fun hg2 => ?_)
        all_goals try (exfalso; first | omega | (simp only [Bool.false_eq_true, reduceCtorEq] at hg2; done) | (refine absurd hg2 ?_; with_reducible assumption) | (refine absurd ?_ hg2; with_reducible assumption))
        all_goals (
         first
           | (iterate 5 refine W_guard_no rfl rfl rfl ?_)
           | (iterate 5 refine W_guard_un rfl rfl ?_)
           | (refine W_guard_yes rfl ?_
              refine W_move rfl rfl ?_
              refine W_guard_yes rfl ?_
              refine W_move rfl rfl ?_
              refine W_guard_yes rfl ?_
              refine W_index_s Tryd.underlying9 rfl rfl ?_ (by first | with_reducible assumption | assumption | exact rfl | exact idx_getD (by first | omega | (simp; omega))) rfl ?_
              (focus (omega))
              refine W_guard_yes rfl ?_
              first
                | (refine W_geq_t rfl rfl ?_ rfl ?_; (focus (omega)))
                | (refine W_geq_f rfl rfl ?_ rfl ?_; (focus (omega)))
                | (refine W_geq rfl rfl rfl ?_)
              refine W_guard_yes rfl ?_
              refine W_move rfl rfl ?_)
         first
           | refine W_guard_lit_t rfl ?_
           | refine W_guard_lit_f rfl ?_
           | refine W_guard_lit_u rfl ?_
           | refine W_guard_split_d rfl rfl rfl (fun hg3 => ?_) (fun hg3 => ?_)
           | refine W_guard_split_n rfl rfl rfl (fun hg3 => ?_) (fun hg3 => ?_)
           | refine W_guard_split_nb rfl rfl rfl (fun hg3 => ?_) (fun hg3 => ?_)
           | refine W_guard_split rfl rfl rfl (fun hg3 => ?_) (fun hg3 => ?_)
         all_goals try (exfalso; first | omega | (simp only [Bool.false_eq_true, reduceCtorEq] at hg3; done) | (refine absurd hg3 ?_; with_reducible assumption) | (refine absurd ?_ hg3; with_reducible assumption))
         all_goals (
          first
            | (iterate 4 refine W_guard_no rfl rfl rfl ?_)
            | (iterate 4 refine W_guard_un rfl rfl ?_)
            | (refine W_guard_yes rfl ?_
               refine W_move rfl rfl ?_
               refine W_guard_yes rfl ?_
               refine W_move rfl rfl ?_
               refine W_guard_yes rfl ?_
               refine W_index_s Tryd.underlying9 rfl rfl ?_ (by first | with_reducible assumption | assumption | exact rfl | exact idx_getD (by first | omega | (simp; omega))) rfl ?_
               (focus (omega))
               refine W_guard_yes rfl ?_
               first
                 | (refine W_leq_t rfl rfl ?_ rfl ?_; (focus (omega)))
                 | (refine W_leq_f rfl rfl ?_ rfl ?_; (focus (omega)))
                 | (refine W_leq rfl rfl rfl ?_))
          first
            | (refine W_guard_no rfl rfl rfl ?_)
            | (refine W_guard_un rfl rfl ?_)
            | (refine W_guard_yes rfl ?_
               first
                 | (refine W_pick_t rfl rfl rfl ?_)
                 | (refine W_pick_f rfl rfl rfl ?_)
                 | (refine W_pick_b rfl rfl rfl rfl ?_))
          first
            | (refine W_pick_t rfl rfl rfl ?_)
            | (refine W_pick_f rfl rfl rfl ?_)
            | (refine W_pick_b rfl rfl rfl rfl ?_)
          refine W_nil ?_
          refine N_then_k ?_
          first
            | refine K_cond_d rfl (fun hc4 => ?_) (fun hc4 => ?_)
            | refine K_cond_n rfl (fun hc4 => ?_) (fun hc4 => ?_)
            | refine K_cond_nb rfl (fun hc4 => ?_) (fun hc4 => ?_)
            | refine K_cond_t rfl (fun hc4 => ?_) (fun hc4 => ?_)
          · try (exfalso; first | omega | (simp only [Bool.false_eq_true, reduceCtorEq] at hc4; done) | (refine absurd hc4 ?_; with_reducible assumption) | (refine absurd ?_ hc4; with_reducible assumption))
            all_goals (
             refine K_seq ?_
             refine K_region ?_
             refine W_assign rfl rfl ?_
             refine W_nil ?_
             refine N_then_k ?_
             refine K_ret ?_
             refine N_block_ret ?_
             refine N_then_ret ?_
             refine N_then_ret ?_
             refine N_block_ret ?_
             refine N_then_ret ?_
             refine N_done1 (.inr rfl) rfl rfl ?_
             refine ⟨_, rfl, congrArg Value.bool ?_, hp.nil⟩
             first
               | exact (right_bad hc (by omega)).symm
               | (rw [List.take_of_length_le ‹s.length ≤ k›] at ha; unfold rightB; rw [ha, Bool.true_and]; first | rfl | (refine decide_eq_decide.2 ?_; omega) | (symm; refine decide_eq_true ?_; omega) | (symm; refine decide_eq_false ?_; omega)))
          · try (exfalso; first | omega | (simp only [Bool.false_eq_true, reduceCtorEq] at hc4; done) | (refine absurd hc4 ?_; with_reducible assumption) | (refine absurd ?_ hc4; with_reducible assumption))
            all_goals (
             refine K_skip ?_
             refine N_block_normal ?_
             refine N_then_k ?_
             refine K_region ?_
             refine W_move rfl rfl ?_
             first
               | (refine W_add rfl rfl (wr_i64 ?_) rfl ?_; (focus (omega)))
               | (refine W_add rfl rfl rfl rfl ?_)
             refine W_assign rfl rfl ?_
             refine W_nil ?_
             refine N_again (k + 1) (sub_end ?_ ?_) ?_ ?_
             · repeat' (first | exact sub_lst_nil (sub_nil _) | refine sub_lst rfl ?_ | (refine sub_lst_eq rfl ?_ ?_; · first | rfl | (simp; done) | (congr 1; omega)))
             · repeat' (first | exact sub_refl _ | exact sub_strip _ _ | refine sub_s_cons rfl ?_ | refine sub_s_lst rfl ?_ | refine sub_s_strip rfl ?_)
             · refine ⟨hp, hlt, ?_⟩
               rw [all_take hc, ha]; exact (Bool.true_and _).trans (decide_eq_true (by omega))
             · omega))))
     · try (exfalso; first | omega | (simp only [Bool.false_eq_true, reduceCtorEq] at hc1; done) | (refine absurd hc1 ?_; with_reducible assumption) | (refine absurd ?_ hc1; with_reducible assumption))
       all_goals (
        refine K_exit ?_
        refine N_then_exit ?_
        refine N_then_exit ?_
        refine N_block_exit ?_
        refine N_then_k ?_
        refine K_seq ?_
        refine K_region ?_
        refine W_move rfl rfl ?_
        refine W_len_s Tryd.underlying9 rfl rfl ?_
        first
          | (refine W_eql_t rfl rfl ?_ rfl ?_; (focus (omega)))
          | (refine W_eql_f rfl rfl ?_ rfl ?_; (focus (omega)))
          | (refine W_eql rfl rfl rfl ?_)
        refine W_assign rfl rfl ?_
        refine W_nil ?_
        refine N_then_k ?_
        refine K_ret ?_
        refine N_done1 (.inr rfl) rfl rfl ?_
        refine ⟨_, rfl, congrArg Value.bool ?_, hp.nil⟩
        first
          | exact (right_bad hc (by omega)).symm
          | (rw [List.take_of_length_le ‹s.length ≤ k›] at ha; unfold rightB; rw [ha, Bool.true_and]; first | rfl | (refine decide_eq_decide.2 ?_; omega) | (symm; refine decide_eq_true ?_; omega) | (symm; refine decide_eq_false ?_; omega))))

theorem salted_spec (w0 : World) (hK : Roots w0) (a b c : List UInt8) (hla : a.length ≤ 1000) (hlb : b.length ≤ 1000) (hlc : c.length ≤ 1000) : PureAt Tryd.prog 16 [.string ⟨a.toArray⟩, .string ⟨b.toArray⟩, .string ⟨c.toArray⟩] (.string ⟨(hexL (sumF (saltB a b c))).toArray⟩) w0 := by
  have hsl := saltB_length a b c
  have hj := joinB_salt a b c
  refine PureAt.intro go16 Tryd.func16 rfl rfl fun hp => ?_
  refine (fun (hk : ∀ w, Hp w0 [] [] w → K _ _ _ _ _ w) => hk w0 hp) fun w hp => ?_
  refine K_seq ?_
  refine K_region ?_
  refine W_assign rfl rfl ?_
  refine W_nil ?_
  refine N_then_k ?_
  refine K_seq ?_
  refine K_region ?_
  refine W_move rfl rfl ?_
  refine W_move rfl rfl ?_
  refine W_move rfl rfl ?_
  refine W_bslice3 hp Tryd.underlying58 sz9 zv9 rfl rfl rfl  rfl rfl rfl  (fun v0 v1 v2 => [v0, v1, v2]) rfl rfl rfl ?_
  clear hp; intro b10 w hp
  refine W_acall hp rfl (((joins_spec w [a, b, c] (some ⟨b10, 0, none⟩) 3 (Rd.own hp List.mem_cons_self (List.prefix_refl _)) (Nat.le_refl 3) [58] (by decide) (by decide) (show 3 ≤ 100000 by decide) (by rw [hj]; omega)).eq (congrArg strV hj))) rfl ?_
  clear hp; intro w hp
  refine W_acall hp rfl ((sum_spec w (hK.keep hp) (saltB a b c) (by omega))) rfl ?_
  clear hp; intro w hp
  refine W_acall hp rfl ((dhex_spec w (sumF (saltB a b c)) rfl)) rfl ?_
  clear hp; intro w hp
  refine W_assign rfl rfl ?_
  refine W_nil ?_
  refine N_then_k ?_
  refine K_ret ?_
  refine N_done1 (.inr rfl) rfl rfl ?_
  exact ⟨_, rfl, rfl, hp.nil⟩

theorem rsalted_spec (w0 : World) (a b c : List UInt8) (hla : a.length ≤ 1000) (hlb : b.length ≤ 1000) (hlc : c.length ≤ 1000) : PureAt Tryd.prog 17 [.string ⟨a.toArray⟩, .string ⟨b.toArray⟩, .string ⟨c.toArray⟩] (.string ⟨(hexL (sumF (saltB a b c))).toArray⟩) w0 := by
  have hsl := saltB_length a b c
  refine PureAt.intro go17 Tryd.func17 rfl rfl fun hp => ?_
  refine (fun (hk : ∀ w, Hp w0 [] [] w → K _ _ _ _ _ w) => hk w0 hp) fun w hp => ?_
  refine K_seq ?_
  refine K_region ?_
  refine W_assign rfl rfl ?_
  refine W_nil ?_
  refine N_then_k ?_
  refine K_seq ?_
  refine K_region ?_
  refine W_move rfl rfl ?_
  refine W_sadd rfl rfl ?_ rfl ?_
  (focus (first | omega | (simp only [List.length_append, List.length_cons, List.length_nil, List.length_drop, List.length_take] at *; omega) | (simp; omega)))
  refine W_move rfl rfl ?_
  refine W_sadd rfl rfl ?_ rfl ?_
  (focus (first | omega | (simp only [List.length_append, List.length_cons, List.length_nil, List.length_drop, List.length_take] at *; omega) | (simp; omega)))
  refine W_sadd rfl rfl ?_ rfl ?_
  (focus (first | omega | (simp only [List.length_append, List.length_cons, List.length_nil, List.length_drop, List.length_take] at *; omega) | (simp; omega)))
  refine W_move rfl rfl ?_
  refine W_sadd rfl rfl ?_ rfl ?_
  (focus (first | omega | (simp only [List.length_append, List.length_cons, List.length_nil, List.length_drop, List.length_take] at *; omega) | (simp; omega)))
  refine W_bcall hp rfl ((table_spec w)) rfl ?_
  clear hp; intro v14 G14 w r14 hp
  obtain ⟨At, ct, rfl⟩ := r14.form
  refine W_acall hp rfl ((rsum_spec w (saltB a b c) (by omega) At ct (OS.rdm (show OS _ _ _ _ _ _ from r14) (w := w) (fun p hq => hp.own p (by simp [hq]))))) rfl ?_
  clear hp; intro w hp
  refine W_acall hp rfl ((rhexs_spec w (sumF (saltB a b c)) rfl)) rfl ?_
  clear hp; intro w hp
  refine W_assign rfl rfl ?_
  refine W_nil ?_
  refine N_then_k ?_
  refine K_ret ?_
  refine N_done1 (.inr rfl) rfl rfl ?_
  exact ⟨_, rfl, rfl, hp.nil⟩

end Go.Proofs.YtpkcoeocdimjoaaDoor
