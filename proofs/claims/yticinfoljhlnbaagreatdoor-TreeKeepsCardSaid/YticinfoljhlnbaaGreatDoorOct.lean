/-
  Packages octet and doorkeeperref02 at this program.
-/
import Derived.Test.YticinfoljhlnbaaGreatDoorStr
namespace Go.Proofs.YticinfoljhlnbaaGreatDoor
open Go.Sx Go.RowKit
set_option linter.unusedVariables false
set_option linter.unusedSimpArgs false
set_option maxRecDepth 100000

theorem within_spec (x lo hi : Int) : PureF Tryz.prog 61 [.int .u8 x, .int .u8 lo, .int .u8 hi] (.bool (decide (lo ≤ x ∧ x ≤ hi))) := by
  refine PureF.intro go61 Tryz.func61 rfl rfl fun w0 hp => ?_
  refine K_seq ?_
  refine K_region ?_
  refine W_assign rfl rfl ?_
  refine W_nil ?_
  refine N_then_k ?_
  refine K_seq ?_
  refine K_region ?_
  refine W_move rfl rfl ?_
  refine W_move rfl rfl ?_
  first
    | (refine W_geq_t rfl rfl ?_ rfl ?_; (focus (omega)))
    | (refine W_geq_f rfl rfl ?_ rfl ?_; (focus (omega)))
    | (refine W_geq rfl rfl rfl ?_)
  refine W_move rfl rfl ?_
  first
    | refine W_guard_lit_t rfl ?_
    | refine W_guard_lit_f rfl ?_
    | refine W_guard_lit_u rfl ?_
    | refine W_guard_split_d rfl rfl rfl (fun hg1 => ?_) (fun hg1 => ?_)
    | refine W_guard_split_n rfl rfl rfl (fun hg1 => ?_) (fun hg1 => ?_)
    | refine W_guard_split_nb rfl rfl rfl (fun hg1 => ?_) (fun hg1 => ?_)
    | refine W_guard_split rfl rfl rfl (fun hg1 => ?_) (fun hg1 => ?_)
  all_goals try (exfalso; first | omega | (simp only [Bool.false_eq_true, reduceCtorEq] at hg1; done) | (refine absurd hg1 ?_; with_reducible assumption) | (refine absurd ?_ hg1; with_reducible assumption))
  all_goals (
   first
     | (iterate 3 refine W_guard_no rfl rfl rfl ?_)
     | (iterate 3 refine W_guard_un rfl rfl ?_)
     | (refine W_guard_yes rfl ?_
        refine W_move rfl rfl ?_
        refine W_guard_yes rfl ?_
        refine W_move rfl rfl ?_
        refine W_guard_yes rfl ?_
        first
          | (refine W_leq_t rfl rfl ?_ rfl ?_; (focus (omega)))
          | (refine W_leq_f rfl rfl ?_ rfl ?_; (focus (omega)))
          | (refine W_leq rfl rfl rfl ?_))
   first
     | (refine W_pick_t rfl rfl rfl ?_)
     | (refine W_pick_f rfl rfl rfl ?_)
     | (refine W_pick_b rfl rfl rfl rfl ?_)
   refine W_assign rfl rfl ?_
   refine W_nil ?_
   refine N_then_k ?_
   refine K_ret ?_
   refine N_done1 (.inr rfl) rfl rfl ?_
   refine ⟨_, rfl, congrArg Value.bool ?_, hp.nil⟩
   first
     | rfl
     | (refine Bool.eq_iff_iff.2 ?_; simp only [Bool.not_eq_true', decide_eq_true_eq, decide_eq_false_iff_not]; omega)
     | (refine (decide_eq_true ?_).symm; omega)
     | (refine (decide_eq_false ?_).symm; omega)
     | (refine decide_eq_decide.2 ?_; omega))

theorem field_spec (c : UInt8) : PureF Tryz.prog 49 [.int .u8 (c.toNat : Int)] (.bool (decide (FieldP c.toNat))) := by
  have hu := c.toNat_lt
  refine PureF.intro go49 Tryz.func49 rfl rfl fun w0 hp => ?_
  refine K_seq ?_
  refine K_region ?_
  refine W_assign rfl rfl ?_
  refine W_nil ?_
  refine N_then_k ?_
  refine K_seq ?_
  refine K_region ?_
  refine W_move rfl rfl ?_
  first
    | (refine W_eql_t rfl rfl ?_ rfl ?_; (focus (omega)))
    | (refine W_eql_f rfl rfl ?_ rfl ?_; (focus (omega)))
    | (refine W_eql rfl rfl rfl ?_)
  refine W_move rfl rfl ?_
  first
    | refine W_guard_lit_t rfl ?_
    | refine W_guard_lit_f rfl ?_
    | refine W_guard_lit_u rfl ?_
    | refine W_guard_split_d rfl rfl rfl (fun hg1 => ?_) (fun hg1 => ?_)
    | refine W_guard_split_n rfl rfl rfl (fun hg1 => ?_) (fun hg1 => ?_)
    | refine W_guard_split_nb rfl rfl rfl (fun hg1 => ?_) (fun hg1 => ?_)
    | refine W_guard_split rfl rfl rfl (fun hg1 => ?_) (fun hg1 => ?_)
  all_goals try (exfalso; first | omega | (simp only [Bool.false_eq_true, reduceCtorEq] at hg1; done) | (refine absurd hg1 ?_; with_reducible assumption) | (refine absurd ?_ hg1; with_reducible assumption))
  all_goals (
   first
     | (iterate 2 refine W_guard_no rfl rfl rfl ?_)
     | (iterate 2 refine W_guard_un rfl rfl ?_)
     | (refine W_guard_yes rfl ?_
        refine W_move rfl rfl ?_
        refine W_guard_yes rfl ?_
        refine W_pcall hp rfl (within_spec _ _ _) rfl ?_
        clear hp; intro w hp)
   first
     | (refine W_pick_t rfl rfl rfl ?_)
     | (refine W_pick_f rfl rfl rfl ?_)
     | (refine W_pick_b rfl rfl rfl rfl ?_)
   refine W_move rfl rfl ?_
   first
     | refine W_guard_lit_t rfl ?_
     | refine W_guard_lit_f rfl ?_
     | refine W_guard_lit_u rfl ?_
     | refine W_guard_split_d rfl rfl rfl (fun hg2 => ?_) (fun hg2 => ?_)
     | refine W_guard_split_n rfl rfl rfl (fun hg2 => ?_) (fun hg2 => ?_)
     | refine W_guard_split_nb rfl rfl rfl (fun hg2 => ?_) (fun hg2 => ?_)
     | refine W_guard_split rfl rfl rfl (fun hg2 => ?_) (fun hg2 => ?_)
   all_goals try (exfalso; first | omega | (simp only [Bool.false_eq_true, reduceCtorEq] at hg2; done) | (refine absurd hg2 ?_; with_reducible assumption) | (refine absurd ?_ hg2; with_reducible assumption))
   all_goals (
    first
      | (iterate 2 refine W_guard_no rfl rfl rfl ?_)
      | (iterate 2 refine W_guard_un rfl rfl ?_)
      | (refine W_guard_yes rfl ?_
         refine W_move rfl rfl ?_
         refine W_guard_yes rfl ?_
         first
           | (refine W_geq_t rfl rfl ?_ rfl ?_; (focus (omega)))
           | (refine W_geq_f rfl rfl ?_ rfl ?_; (focus (omega)))
           | (refine W_geq rfl rfl rfl ?_))
    first
      | (refine W_pick_t rfl rfl rfl ?_)
      | (refine W_pick_f rfl rfl rfl ?_)
      | (refine W_pick_b rfl rfl rfl rfl ?_)
    refine W_assign rfl rfl ?_
    refine W_nil ?_
    refine N_then_k ?_
    refine K_ret ?_
    refine N_done1 (.inr rfl) rfl rfl ?_
    refine ⟨_, rfl, congrArg Value.bool ?_, hp.nil⟩
    first
      | rfl
      | (refine Bool.eq_iff_iff.2 ?_; simp only [Bool.not_eq_true', decide_eq_true_eq, decide_eq_false_iff_not]; omega)
      | (refine (decide_eq_true ?_).symm; omega)
      | (refine (decide_eq_false ?_).symm; omega)
      | (refine decide_eq_decide.2 ?_; omega)))

theorem blank_spec (c : UInt8) : PureF Tryz.prog 62 [.int .u8 (c.toNat : Int)] (.bool (decide (BlankP c.toNat))) := by
  have hu := c.toNat_lt
  refine PureF.intro go62 Tryz.func62 rfl rfl fun w0 hp => ?_
  refine K_seq ?_
  refine K_region ?_
  refine W_assign rfl rfl ?_
  refine W_nil ?_
  refine N_then_k ?_
  refine K_seq ?_
  refine K_region ?_
  refine W_move rfl rfl ?_
  first
    | (refine W_eql_t rfl rfl ?_ rfl ?_; (focus (omega)))
    | (refine W_eql_f rfl rfl ?_ rfl ?_; (focus (omega)))
    | (refine W_eql rfl rfl rfl ?_)
  refine W_move rfl rfl ?_
  first
    | refine W_guard_lit_t rfl ?_
    | refine W_guard_lit_f rfl ?_
    | refine W_guard_lit_u rfl ?_
    | refine W_guard_split_d rfl rfl rfl (fun hg1 => ?_) (fun hg1 => ?_)
    | refine W_guard_split_n rfl rfl rfl (fun hg1 => ?_) (fun hg1 => ?_)
    | refine W_guard_split_nb rfl rfl rfl (fun hg1 => ?_) (fun hg1 => ?_)
    | refine W_guard_split rfl rfl rfl (fun hg1 => ?_) (fun hg1 => ?_)
  all_goals try (exfalso; first | omega | (simp only [Bool.false_eq_true, reduceCtorEq] at hg1; done) | (refine absurd hg1 ?_; with_reducible assumption) | (refine absurd ?_ hg1; with_reducible assumption))
  all_goals (
   first
     | (iterate 2 refine W_guard_no rfl rfl rfl ?_)
     | (iterate 2 refine W_guard_un rfl rfl ?_)
     | (refine W_guard_yes rfl ?_
        refine W_move rfl rfl ?_
        refine W_guard_yes rfl ?_
        first
          | (refine W_eql_t rfl rfl ?_ rfl ?_; (focus (omega)))
          | (refine W_eql_f rfl rfl ?_ rfl ?_; (focus (omega)))
          | (refine W_eql rfl rfl rfl ?_))
   first
     | (refine W_pick_t rfl rfl rfl ?_)
     | (refine W_pick_f rfl rfl rfl ?_)
     | (refine W_pick_b rfl rfl rfl rfl ?_)
   refine W_assign rfl rfl ?_
   refine W_nil ?_
   refine N_then_k ?_
   refine K_ret ?_
   refine N_done1 (.inr rfl) rfl rfl ?_
   refine ⟨_, rfl, congrArg Value.bool ?_, hp.nil⟩
   first
     | rfl
     | (refine Bool.eq_iff_iff.2 ?_; simp only [Bool.not_eq_true', decide_eq_true_eq, decide_eq_false_iff_not]; omega)
     | (refine (decide_eq_true ?_).symm; omega)
     | (refine (decide_eq_false ?_).symm; omega)
     | (refine decide_eq_decide.2 ?_; omega))

theorem all_spec (s : List UInt8) (fv : Value) (p : UInt8 → Bool) (hf : ∀ c : UInt8, PureV Tryz.prog fv [.int .u8 (c.toNat : Int)] (.bool (p c))) (hl : s.length ≤ 9000000000000000000) : PureF Tryz.prog 48 [.string ⟨s.toArray⟩, fv] (.bool (s.all p)) := by
  refine PureF.intro go48 Tryz.func48 rfl rfl fun w0 hp => ?_
  refine K_seq ?_
  refine K_region ?_
  refine W_assign rfl rfl ?_
  refine W_nil ?_
  refine N_then_k ?_
  refine K_seq ?_
  refine K_seq ?_
  refine K_region ?_
  refine W_move rfl rfl ?_
  refine W_len_s Tryz.underlying9 rfl rfl ?_
  refine W_move rfl rfl ?_
  refine W_nil ?_
  refine N_then_k ?_
  refine K_block ?_
  refine K_loop (σ := Nat) [4, 5, 8, 9, 10, 11, 12, 13, 14, 15, 16, 17]
      (fun k => [(8, .int .i64 k)])
      (fun k w => Hp w0 [] [] w ∧ k ≤ s.length ∧ (s.take k).all p = true)
      (fun k => s.length - k) (0) ?_ ?_ ?_
  · repeat' (first | exact sub_lst_nil (sub_nil _) | refine sub_lst rfl ?_ | (refine sub_lst_eq rfl ?_ ?_; · first | rfl | (simp; done) | (congr 1; omega)))
  · exact ⟨hp, Nat.zero_le _, by simp⟩
  · intro k w hJ
    clear hp
    obtain ⟨hp, hle, ha⟩ := hJ
    rcases Nat.lt_or_ge k s.length with hlt | hge
    all_goals (
 refine K_seq ?_
 refine K_region ?_
 first
   | (refine W_lss_t rfl rfl ?_ rfl ?_; (focus (omega)))
   | (refine W_lss_f rfl rfl ?_ rfl ?_; (focus (omega)))
   | (refine W_lss rfl rfl rfl ?_)
 refine W_nil ?_
 refine N_then_k ?_
 refine K_seq ?_
 first
   | refine K_cond_d rfl (fun hc1 => ?_) (fun hc1 => ?_)
   | refine K_cond_n rfl (fun hc1 => ?_) (fun hc1 => ?_)
   | refine K_cond_nb rfl (fun hc1 => ?_) (fun hc1 => ?_)
   | refine K_cond_t rfl (fun hc1 => ?_) (fun hc1 => ?_)
 · try (exfalso; first | omega | (simp only [Bool.false_eq_true, reduceCtorEq] at hc1; done) | (refine absurd hc1 ?_; with_reducible assumption) | (refine absurd ?_ hc1; with_reducible assumption))
   all_goals (
 refine K_skip ?_
 refine N_then_k ?_
 refine K_seq ?_
 refine K_block ?_
 refine K_seq ?_
 refine K_region ?_
 refine W_move rfl rfl ?_
 refine W_assign rfl rfl ?_
 refine W_nil ?_
 refine N_then_k ?_
 refine K_seq ?_
 refine K_region ?_
 obtain ⟨c, hc⟩ : ∃ c, s[k]? = some c := ⟨_, List.getElem?_eq_getElem hlt⟩
 refine W_move rfl rfl ?_
 refine W_move rfl rfl ?_
 refine W_move rfl rfl ?_
 refine W_index_s Tryz.underlying9 rfl rfl ?_ (by first | with_reducible assumption | assumption | exact rfl | exact idx_getD (by first | omega | (simp; omega))) rfl ?_
 (focus (omega))
 refine W_vcall hp rfl rfl (hf c) rfl ?_
 clear hp; intro w hp
 first
   | (refine W_not_t rfl rfl ?_)
   | (refine W_not_f rfl rfl ?_)
   | (refine W_not rfl rfl ?_)
 refine W_nil ?_
 refine N_then_k ?_
 first
   | refine K_cond_d rfl (fun hc2 => ?_) (fun hc2 => ?_)
   | refine K_cond_n rfl (fun hc2 => ?_) (fun hc2 => ?_)
   | refine K_cond_nb rfl (fun hc2 => ?_) (fun hc2 => ?_)
   | refine K_cond_t rfl (fun hc2 => ?_) (fun hc2 => ?_)
 · try (exfalso; first | omega | (simp only [Bool.false_eq_true, reduceCtorEq] at hc2; done) | (refine absurd hc2 ?_; with_reducible assumption) | (refine absurd ?_ hc2; with_reducible assumption))
   all_goals (
 refine K_seq ?_
 refine K_region ?_
 refine W_assign rfl rfl ?_
 refine W_nil ?_
 refine N_then_k ?_
 refine K_ret ?_
 refine N_block_ret ?_
 refine N_then_ret ?_
 refine N_then_ret ?_
 refine N_block_ret ?_
 refine N_then_ret ?_
 refine N_done1 (.inr rfl) rfl rfl ?_
 refine ⟨_, rfl, congrArg Value.bool ?_, hp.nil⟩
 first
   | (rw [all_not ‹s[k]? = some c› (by assumption)])
   | (rw [List.take_of_length_le ‹s.length ≤ k›] at ha; rw [ha]))
 · try (exfalso; first | omega | (simp only [Bool.false_eq_true, reduceCtorEq] at hc2; done) | (refine absurd hc2 ?_; with_reducible assumption) | (refine absurd ?_ hc2; with_reducible assumption))
   all_goals (
 refine K_skip ?_
 refine N_block_normal ?_
 refine N_then_k ?_
 refine K_region ?_
 first
   | (refine W_add rfl rfl (wr_i64 ?_) rfl ?_; (focus (omega)))
   | (refine W_add rfl rfl rfl rfl ?_)
 refine W_move rfl rfl ?_
 refine W_nil ?_
 refine N_again (k + 1) (sub_end ?_ ?_) ?_ ?_
 · repeat' (first | exact sub_lst_nil (sub_nil _) | refine sub_lst rfl ?_ | (refine sub_lst_eq rfl ?_ ?_; · first | rfl | (simp; done) | (congr 1; omega)))
 · repeat' (first | exact sub_refl _ | exact sub_strip _ _ | refine sub_s_cons rfl ?_ | refine sub_s_lst rfl ?_ | refine sub_s_strip rfl ?_)
 · refine ⟨hp, hlt, ?_⟩
   rw [all_take hc, ha]; simpa using ‹p c = true›
 · omega))
 · try (exfalso; first | omega | (simp only [Bool.false_eq_true, reduceCtorEq] at hc1; done) | (refine absurd hc1 ?_; with_reducible assumption) | (refine absurd ?_ hc1; with_reducible assumption))
   all_goals (
 refine K_exit ?_
 refine N_then_exit ?_
 refine N_then_exit ?_
 refine N_block_exit ?_
 refine N_then_k ?_
 refine K_seq ?_
 refine K_region ?_
 refine W_assign rfl rfl ?_
 refine W_nil ?_
 refine N_then_k ?_
 refine K_ret ?_
 refine N_done1 (.inr rfl) rfl rfl ?_
 refine ⟨_, rfl, congrArg Value.bool ?_, hp.nil⟩
 first
   | (rw [all_not ‹s[k]? = some c› (by assumption)])
   | (rw [List.take_of_length_le ‹s.length ≤ k›] at ha; rw [ha])))

theorem all_field (s : List UInt8) (hl : s.length ≤ 9000000000000000000) : PureF Tryz.prog 48 [.string ⟨s.toArray⟩, .func (.func 49) #[] #[]] (.bool (s.all fieldB)) :=
  all_spec s _ fieldB (fun c => (field_spec c).toV) hl

theorem trimL_length (s : List UInt8) : (trimL s).length ≤ s.length := (List.dropWhile_sublist _).length_le
theorem nil_or_last (r : List UInt8) : r = [] ∨ ∃ c, r[((r.length : Int) - 1).toNat]? = some c ∧ 0 < r.length ∧ r ≠ [] := by
  rcases Nat.eq_zero_or_pos r.length with h | h
  · exact .inl (List.length_eq_zero_iff.1 h)
  · exact .inr ⟨_, List.getElem?_eq_getElem (by omega), h, fun e => by simp [e] at h⟩
theorem snoc_take {r : List UInt8} {c : UInt8} (h : r[((r.length : Int) - 1).toNat]? = some c) : r = r.take (r.length - 1) ++ [c] := by
  have e : ((r.length : Int) - 1).toNat = r.length - 1 := by omega
  rw [e] at h
  have hlt := (List.getElem?_eq_some_iff.1 h).1
  conv => lhs; rw [← List.take_append_drop (r.length - 1) r]
  rw [List.drop_eq_getElem_cons hlt, (List.getElem?_eq_some_iff.1 h).2, List.drop_of_length_le (by omega)]
theorem trimR_cut {r : List UInt8} {c : UInt8} (h : r[((r.length : Int) - 1).toNat]? = some c) (hb : blankB c = true) : trimR (r.take (r.length - 1)) = trimR r := by
  conv => rhs; rw [snoc_take h]
  rw [trimR_snoc_blank hb]
theorem trimR_end {r : List UInt8} {c : UInt8} (h : r[((r.length : Int) - 1).toNat]? = some c) (hb : blankB c = false) : trimR r = r := by
  rw [snoc_take h, trimR_snoc hb]

theorem trim_spec (s : List UInt8) (hl : s.length ≤ 9000000000000000000) : PureF Tryz.prog 50 [.string ⟨s.toArray⟩] (.string ⟨(trim s).toArray⟩) := by
  refine PureF.intro go50 Tryz.func50 rfl rfl fun w0 hp => ?_
  refine K_seq ?_
  refine K_region ?_
  refine W_assign rfl rfl ?_
  refine W_nil ?_
  refine N_then_k ?_
  refine K_mid (σ := Unit) [0, 3, 4, 5, 6, 7, 8, 9, 10, 11]
      (fun _ => [(0, .string ⟨(trimL s).toArray⟩)])
      (fun _ w => Hp w0 [] [] w) ?_ ?_
  · refine K_block ?_
    refine K_loop (σ := List UInt8) [0, 3, 4, 5, 6, 7, 8, 9, 10, 11]
        (fun r => [(0, .string ⟨r.toArray⟩)])
        (fun r w => Hp w0 [] [] w ∧ trimL r = trimL s)
        (fun r => r.length) (s) ?_ ?_ ?_
    · repeat' (first | exact sub_lst_nil (sub_nil _) | refine sub_lst rfl ?_ | (refine sub_lst_eq rfl ?_ ?_; · first | rfl | (simp; done) | (congr 1; omega)))
    · exact ⟨hp, rfl⟩
    · intro r w hJ
      clear hp
      obtain ⟨hp, ht⟩ := hJ
      rcases r with _ | ⟨c, r⟩
      all_goals (
 refine K_seq ?_
 refine K_seq ?_
 refine K_region ?_
 refine W_move rfl rfl ?_
 first
   | (refine W_sneq_f rfl rfl ?_ rfl ?_; (focus (first | rfl | assumption)))
   | (refine W_sneq_t rfl rfl ?_ rfl ?_; (focus (first | assumption | decide | exact List.cons_ne_nil _ _)))
   | (refine W_sneq rfl rfl rfl ?_)
 refine W_move rfl rfl ?_
 first
   | refine W_guard_lit_t rfl ?_
   | refine W_guard_lit_f rfl ?_
   | refine W_guard_lit_u rfl ?_
   | refine W_guard_split_d rfl rfl rfl (fun hg1 => ?_) (fun hg1 => ?_)
   | refine W_guard_split_n rfl rfl rfl (fun hg1 => ?_) (fun hg1 => ?_)
   | refine W_guard_split_nb rfl rfl rfl (fun hg1 => ?_) (fun hg1 => ?_)
   | refine W_guard_split rfl rfl rfl (fun hg1 => ?_) (fun hg1 => ?_)
 all_goals try (exfalso; first | omega | (simp only [Bool.false_eq_true, reduceCtorEq] at hg1; done) | (refine absurd hg1 ?_; with_reducible assumption) | (refine absurd ?_ hg1; with_reducible assumption))
 all_goals (
  first
    | (iterate 3 refine W_guard_no rfl rfl rfl ?_)
    | (iterate 3 refine W_guard_un rfl rfl ?_)
    | (refine W_guard_yes rfl ?_
       refine W_move rfl rfl ?_
       refine W_guard_yes rfl ?_
       refine W_index_s Tryz.underlying9 rfl rfl ?_ (by first | with_reducible assumption | assumption | exact rfl | exact idx_getD (by first | omega | (simp; omega))) rfl ?_
       (focus (omega))
       refine W_guard_yes rfl ?_
       refine W_pcall hp rfl (blank_spec _) rfl ?_
       clear hp; intro w hp)
  first
    | (refine W_pick_t rfl rfl rfl ?_)
    | (refine W_pick_f rfl rfl rfl ?_)
    | (refine W_pick_b rfl rfl rfl rfl ?_)
  refine W_nil ?_
  refine N_then_k ?_
  first
    | refine K_cond_d rfl (fun hc2 => ?_) (fun hc2 => ?_)
    | refine K_cond_n rfl (fun hc2 => ?_) (fun hc2 => ?_)
    | refine K_cond_nb rfl (fun hc2 => ?_) (fun hc2 => ?_)
    | refine K_cond_t rfl (fun hc2 => ?_) (fun hc2 => ?_)
  · try (exfalso; first | omega | (simp only [Bool.false_eq_true, reduceCtorEq] at hc2; done) | (refine absurd hc2 ?_; with_reducible assumption) | (refine absurd ?_ hc2; with_reducible assumption))
    all_goals (
 refine K_skip ?_
 refine N_then_k ?_
 refine K_block ?_
 refine K_region ?_
 refine W_move rfl rfl ?_
 refine W_slice_sl Tryz.underlying9 rfl rfl ?_ ?_ rfl ?_
 (focus (first | omega | (simp; omega) | (simp only [List.length_drop, List.length_take, List.length_append]; omega)))
 (focus (first | omega | (simp; omega) | (simp only [List.length_drop, List.length_take, List.length_append]; omega)))
 refine W_assign rfl rfl ?_
 refine W_nil ?_
 refine N_block_normal ?_
 refine N_again (r) (sub_end ?_ ?_) ?_ ?_
 · repeat' (first | exact sub_lst_nil (sub_nil _) | refine sub_lst rfl ?_ | (refine sub_lst_eq rfl ?_ ?_; · first | rfl | (simp; done) | (congr 1; omega)))
 · repeat' (first | exact sub_refl _ | exact sub_strip _ _ | refine sub_s_cons rfl ?_ | refine sub_s_lst rfl ?_ | refine sub_s_strip rfl ?_)
 · refine ⟨hp, ?_⟩
   rw [← ht, trimL_cons_blank (decide_eq_true (by assumption))]
 · simp)
  · try (exfalso; first | omega | (simp only [Bool.false_eq_true, reduceCtorEq] at hc2; done) | (refine absurd hc2 ?_; with_reducible assumption) | (refine absurd ?_ hc2; with_reducible assumption))
    all_goals (
 refine K_exit ?_
 refine N_then_exit ?_
 refine N_then_exit ?_
 refine N_block_exit ?_
 refine N_mid (()) (sub_end ?_ ?_) ?_
 · repeat' (first | exact sub_lst_nil (sub_nil _) | refine sub_lst rfl ?_ | (refine sub_lst_eq rfl ?_ ?_; · first | rfl | (first | (rw [← ht]; rfl) | (rw [← ht, trimL_cons (decide_eq_false (by assumption))])) | (simp; done) | (congr 1; omega)))
 · repeat' (first | exact sub_refl _ | exact sub_strip _ _ | refine sub_s_cons rfl ?_ | refine sub_s_lst rfl ?_ | refine sub_s_strip rfl ?_)
 · exact hp)))
  · intro _ w hJ
    have hp := hJ
    refine K_mid (σ := Unit) [0, 12, 13, 14, 15, 16, 17, 18, 19, 20, 21, 22, 23, 24, 25, 26]
        (fun _ => [(0, .string ⟨(trim s).toArray⟩)])
        (fun _ w => Hp w0 [] [] w) ?_ ?_
    · refine K_block ?_
      refine K_loop (σ := List UInt8) [0, 12, 13, 14, 15, 16, 17, 18, 19, 20, 21, 22, 23, 24, 25, 26]
          (fun r => [(0, .string ⟨r.toArray⟩)])
          (fun r w => Hp w0 [] [] w ∧ trimR r = trim s ∧ r.length ≤ s.length)
          (fun r => r.length) (trimL s) ?_ ?_ ?_
      · repeat' (first | exact sub_lst_nil (sub_nil _) | refine sub_lst rfl ?_ | (refine sub_lst_eq rfl ?_ ?_; · first | rfl | (simp; done) | (congr 1; omega)))
      · exact ⟨hp, rfl, trimL_length s⟩
      · intro r w hJ
        clear hp
        obtain ⟨hp, ht2, hle2⟩ := hJ
        rcases nil_or_last r with hr | ⟨c, hc, hpos, hr⟩
        all_goals (
 refine K_seq ?_
 refine K_seq ?_
 refine K_region ?_
 refine W_move rfl rfl ?_
 first
   | (refine W_sneq_f rfl rfl ?_ rfl ?_; (focus (first | rfl | assumption)))
   | (refine W_sneq_t rfl rfl ?_ rfl ?_; (focus (first | assumption | decide | exact List.cons_ne_nil _ _)))
   | (refine W_sneq rfl rfl rfl ?_)
 refine W_move rfl rfl ?_
 first
   | refine W_guard_lit_t rfl ?_
   | refine W_guard_lit_f rfl ?_
   | refine W_guard_lit_u rfl ?_
   | refine W_guard_split_d rfl rfl rfl (fun hg3 => ?_) (fun hg3 => ?_)
   | refine W_guard_split_n rfl rfl rfl (fun hg3 => ?_) (fun hg3 => ?_)
   | refine W_guard_split_nb rfl rfl rfl (fun hg3 => ?_) (fun hg3 => ?_)
   | refine W_guard_split rfl rfl rfl (fun hg3 => ?_) (fun hg3 => ?_)
 all_goals try (exfalso; first | omega | (simp only [Bool.false_eq_true, reduceCtorEq] at hg3; done) | (refine absurd hg3 ?_; with_reducible assumption) | (refine absurd ?_ hg3; with_reducible assumption))
 all_goals (
  first
    | (iterate 6 refine W_guard_no rfl rfl rfl ?_)
    | (iterate 6 refine W_guard_un rfl rfl ?_)
    | (refine W_guard_yes rfl ?_
       refine W_move rfl rfl ?_
       refine W_guard_yes rfl ?_
       refine W_move rfl rfl ?_
       refine W_guard_yes rfl ?_
       refine W_len_s Tryz.underlying9 rfl rfl ?_
       refine W_guard_yes rfl ?_
       first
         | (refine W_sub rfl rfl (wr_i64 ?_) rfl ?_; (focus (omega)))
         | (refine W_sub rfl rfl rfl rfl ?_)
       refine W_guard_yes rfl ?_
       refine W_index_s Tryz.underlying9 rfl rfl ?_ (by first | with_reducible assumption | assumption | exact rfl | exact idx_getD (by first | omega | (simp; omega))) rfl ?_
       (focus (omega))
       refine W_guard_yes rfl ?_
       refine W_pcall hp rfl (blank_spec _) rfl ?_
       clear hp; intro w hp)
  first
    | (refine W_pick_t rfl rfl rfl ?_)
    | (refine W_pick_f rfl rfl rfl ?_)
    | (refine W_pick_b rfl rfl rfl rfl ?_)
  refine W_nil ?_
  refine N_then_k ?_
  first
    | refine K_cond_d rfl (fun hc4 => ?_) (fun hc4 => ?_)
    | refine K_cond_n rfl (fun hc4 => ?_) (fun hc4 => ?_)
    | refine K_cond_nb rfl (fun hc4 => ?_) (fun hc4 => ?_)
    | refine K_cond_t rfl (fun hc4 => ?_) (fun hc4 => ?_)
  · try (exfalso; first | omega | (simp only [Bool.false_eq_true, reduceCtorEq] at hc4; done) | (refine absurd hc4 ?_; with_reducible assumption) | (refine absurd ?_ hc4; with_reducible assumption))
    all_goals (
 refine K_skip ?_
 refine N_then_k ?_
 refine K_block ?_
 refine K_region ?_
 refine W_move rfl rfl ?_
 refine W_move rfl rfl ?_
 refine W_len_s Tryz.underlying9 rfl rfl ?_
 first
   | (refine W_sub rfl rfl (wr_i64 ?_) rfl ?_; (focus (omega)))
   | (refine W_sub rfl rfl rfl rfl ?_)
 refine W_slice_sh Tryz.underlying9 rfl rfl ?_ ?_ rfl ?_
 (focus (first | omega | (simp; omega) | (simp only [List.length_drop, List.length_take, List.length_append]; omega)))
 (focus (first | omega | (simp; omega) | (simp only [List.length_drop, List.length_take, List.length_append]; omega)))
 refine W_assign rfl rfl ?_
 refine W_nil ?_
 refine N_block_normal ?_
 refine N_again (r.take (r.length - 1)) (sub_end ?_ ?_) ?_ ?_
 · repeat' (first | exact sub_lst_nil (sub_nil _) | refine sub_lst rfl ?_ | (refine sub_lst_eq rfl ?_ ?_; · first | rfl | (rw [show ((r.length : Int) - 1).toNat = r.length - 1 by omega]) | (simp; done) | (congr 1; omega)))
 · repeat' (first | exact sub_refl _ | exact sub_strip _ _ | refine sub_s_cons rfl ?_ | refine sub_s_lst rfl ?_ | refine sub_s_strip rfl ?_)
 · refine ⟨hp, ?_, by simp; omega⟩
   rw [← ht2, trimR_cut hc (decide_eq_true (by assumption))]
 · simp; omega)
  · try (exfalso; first | omega | (simp only [Bool.false_eq_true, reduceCtorEq] at hc4; done) | (refine absurd hc4 ?_; with_reducible assumption) | (refine absurd ?_ hc4; with_reducible assumption))
    all_goals (
 refine K_exit ?_
 refine N_then_exit ?_
 refine N_then_exit ?_
 refine N_block_exit ?_
 refine N_mid (()) (sub_end ?_ ?_) ?_
 · repeat' (first | exact sub_lst_nil (sub_nil _) | refine sub_lst rfl ?_ | (refine sub_lst_eq rfl ?_ ?_; · first | rfl | (first | (rw [← ht2, hr]; rfl) | (rw [← ht2, trimR_end hc (decide_eq_false (by assumption))])) | (simp; done) | (congr 1; omega)))
 · repeat' (first | exact sub_refl _ | exact sub_strip _ _ | refine sub_s_cons rfl ?_ | refine sub_s_lst rfl ?_ | refine sub_s_strip rfl ?_)
 · exact hp)))
    · intro _ w hJ
      have hp := hJ
      refine K_seq ?_
      refine K_region ?_
      refine W_move rfl rfl ?_
      refine W_assign rfl rfl ?_
      refine W_nil ?_
      refine N_then_k ?_
      refine K_ret ?_
      refine N_done1 (.inr rfl) rfl rfl ?_
      exact ⟨_, rfl, rfl, hp.nil⟩

theorem u8_all {p : UInt8 → Prop} (h : ∀ n : Fin 256, p (UInt8.ofNat n.val)) (c : UInt8) : p c := by
  have := h ⟨c.toNat, c.toNat_lt⟩
  simpa using this

theorem in_spec (c : UInt8) (s : List UInt8) (hl : s.length ≤ 9000000000000000000) : PureF Tryz.prog 55 [.int .u8 (c.toNat : Int), .string ⟨s.toArray⟩] (.bool (decide (c ∈ s))) := by
  refine PureF.intro go55 Tryz.func55 rfl rfl fun w0 hp => ?_
  refine K_seq ?_
  refine K_region ?_
  refine W_assign rfl rfl ?_
  refine W_nil ?_
  refine N_then_k ?_
  refine K_seq ?_
  refine K_seq ?_
  refine K_region ?_
  refine W_assign rfl rfl ?_
  refine W_nil ?_
  refine N_then_k ?_
  refine K_block ?_
  refine K_loop (σ := Nat) [4, 5, 6, 7, 8, 9, 10, 11, 12, 13, 14, 15, 16]
      (fun k => [(5, .int .i64 k)])
      (fun k w => Hp w0 [] [] w ∧ k ≤ s.length ∧ c ∉ s.take k)
      (fun k => s.length - k) (0) ?_ ?_ ?_
  · repeat' (first | exact sub_lst_nil (sub_nil _) | refine sub_lst rfl ?_ | (refine sub_lst_eq rfl ?_ ?_; · first | rfl | (simp; done) | (congr 1; omega)))
  · exact ⟨hp, Nat.zero_le _, by simp⟩
  · intro k w hJ
    clear hp
    obtain ⟨hp, hle, ha⟩ := hJ
    rcases Nat.lt_or_ge k (s.length) with hlt | hge
    all_goals (
 refine K_seq ?_
 refine K_seq ?_
 refine K_region ?_
 refine W_move rfl rfl ?_
 refine W_move rfl rfl ?_
 refine W_len_s Tryz.underlying9 rfl rfl ?_
 first
   | (refine W_lss_t rfl rfl ?_ rfl ?_; (focus (omega)))
   | (refine W_lss_f rfl rfl ?_ rfl ?_; (focus (omega)))
   | (refine W_lss rfl rfl rfl ?_)
 refine W_nil ?_
 refine N_then_k ?_
 first
   | refine K_cond_d rfl (fun hc1 => ?_) (fun hc1 => ?_)
   | refine K_cond_n rfl (fun hc1 => ?_) (fun hc1 => ?_)
   | refine K_cond_nb rfl (fun hc1 => ?_) (fun hc1 => ?_)
   | refine K_cond_t rfl (fun hc1 => ?_) (fun hc1 => ?_)
 · try (exfalso; first | omega | (simp only [Bool.false_eq_true, reduceCtorEq] at hc1; done) | (refine absurd hc1 ?_; with_reducible assumption) | (refine absurd ?_ hc1; with_reducible assumption))
   all_goals (
 refine K_skip ?_
 refine N_then_k ?_
 refine K_seq ?_
 refine K_block ?_
 refine K_seq ?_
 refine K_region ?_
 obtain ⟨x, hc⟩ : ∃ c, s[k]? = some c := ⟨_, List.getElem?_eq_getElem hlt⟩
 refine W_move rfl rfl ?_
 refine W_move rfl rfl ?_
 refine W_index_s Tryz.underlying9 rfl rfl ?_ (by first | with_reducible assumption | assumption | exact rfl | exact idx_getD (by first | omega | (simp; omega))) rfl ?_
 (focus (omega))
 refine W_move rfl rfl ?_
 first
   | (refine W_eql_t rfl rfl ?_ rfl ?_; (focus (omega)))
   | (refine W_eql_f rfl rfl ?_ rfl ?_; (focus (omega)))
   | (refine W_eql rfl rfl rfl ?_)
 refine W_nil ?_
 refine N_then_k ?_
 first
   | refine K_cond_d rfl (fun hc2 => ?_) (fun hc2 => ?_)
   | refine K_cond_n rfl (fun hc2 => ?_) (fun hc2 => ?_)
   | refine K_cond_nb rfl (fun hc2 => ?_) (fun hc2 => ?_)
   | refine K_cond_t rfl (fun hc2 => ?_) (fun hc2 => ?_)
 · try (exfalso; first | omega | (simp only [Bool.false_eq_true, reduceCtorEq] at hc2; done) | (refine absurd hc2 ?_; with_reducible assumption) | (refine absurd ?_ hc2; with_reducible assumption))
   all_goals (
 refine K_seq ?_
 refine K_region ?_
 refine W_assign rfl rfl ?_
 refine W_nil ?_
 refine N_then_k ?_
 refine K_ret ?_
 refine N_block_ret ?_
 refine N_then_ret ?_
 refine N_then_ret ?_
 refine N_block_ret ?_
 refine N_then_ret ?_
 refine N_done1 (.inr rfl) rfl rfl ?_
 refine ⟨_, rfl, congrArg Value.bool ?_, hp.nil⟩
 first
   | (rw [decide_eq_true]; have e : x = c := UInt8.toNat_inj.1 (by omega); subst e; exact List.mem_of_getElem? hc)
   | (rw [List.take_of_length_le hge] at ha; rw [decide_eq_false ha]))
 · try (exfalso; first | omega | (simp only [Bool.false_eq_true, reduceCtorEq] at hc2; done) | (refine absurd hc2 ?_; with_reducible assumption) | (refine absurd ?_ hc2; with_reducible assumption))
   all_goals (
 refine K_skip ?_
 refine N_block_normal ?_
 refine N_then_k ?_
 refine K_region ?_
 refine W_move rfl rfl ?_
 first
   | (refine W_add rfl rfl (wr_i64 ?_) rfl ?_; (focus (omega)))
   | (refine W_add rfl rfl rfl rfl ?_)
 refine W_assign rfl rfl ?_
 refine W_nil ?_
 refine N_again (k + 1) (sub_end ?_ ?_) ?_ ?_
 · repeat' (first | exact sub_lst_nil (sub_nil _) | refine sub_lst rfl ?_ | (refine sub_lst_eq rfl ?_ ?_; · first | rfl | (simp; done) | (congr 1; omega)))
 · repeat' (first | exact sub_refl _ | exact sub_strip _ _ | refine sub_s_cons rfl ?_ | refine sub_s_lst rfl ?_ | refine sub_s_strip rfl ?_)
 · refine ⟨hp, hlt, ?_⟩
   rw [List.take_add_one, hc]
   simp only [Option.toList_some, List.mem_append, List.mem_singleton, not_or]
   refine ⟨ha, fun e => ?_⟩
   subst e; omega
 · omega))
 · try (exfalso; first | omega | (simp only [Bool.false_eq_true, reduceCtorEq] at hc1; done) | (refine absurd hc1 ?_; with_reducible assumption) | (refine absurd ?_ hc1; with_reducible assumption))
   all_goals (
 refine K_exit ?_
 refine N_then_exit ?_
 refine N_then_exit ?_
 refine N_block_exit ?_
 refine N_then_k ?_
 refine K_seq ?_
 refine K_region ?_
 refine W_assign rfl rfl ?_
 refine W_nil ?_
 refine N_then_k ?_
 refine K_ret ?_
 refine N_done1 (.inr rfl) rfl rfl ?_
 refine ⟨_, rfl, congrArg Value.bool ?_, hp.nil⟩
 first
   | (rw [decide_eq_true]; have e : x = c := UInt8.toNat_inj.1 (by omega); subst e; exact List.mem_of_getElem? hc)
   | (rw [List.take_of_length_le hge] at ha; rw [decide_eq_false ha])))

theorem letters_spec  : PureF Tryz.prog 63 [] (.string ⟨[65, 66, 67, 68, 69, 70, 71, 72, 73, 74, 75, 76, 77, 78, 79, 80, 81, 82, 83, 84, 85, 86, 87, 88, 89, 90, 97, 98, 99, 100, 101, 102, 103, 104, 105, 106, 107, 108, 109, 110, 111, 112, 113, 114, 115, 116, 117, 118, 119, 120, 121, 122].toArray⟩) := by
  refine PureF.intro go63 Tryz.func63 rfl rfl fun w0 hp => ?_
  refine K_seq ?_
  refine K_region ?_
  refine W_assign rfl rfl ?_
  refine W_nil ?_
  refine N_then_k ?_
  refine K_seq ?_
  refine K_region ?_
  refine W_assign rfl rfl ?_
  refine W_nil ?_
  refine N_then_k ?_
  refine K_ret ?_
  refine N_done1 (.inr rfl) rfl rfl ?_
  exact ⟨_, rfl, rfl, hp.nil⟩

theorem in_letters (c : UInt8) : Value.bool (decide (c ∈ ([65, 66, 67, 68, 69, 70, 71, 72, 73, 74, 75, 76, 77, 78, 79, 80, 81, 82, 83, 84, 85, 86, 87, 88, 89, 90, 97, 98, 99, 100, 101, 102, 103, 104, 105, 106, 107, 108, 109, 110, 111, 112, 113, 114, 115, 116, 117, 118, 119, 120, 121, 122] : List UInt8))) = .bool (decide (LetterP c.toNat)) := congrArg Value.bool (u8_all (p := fun c => decide (c ∈ ([65, 66, 67, 68, 69, 70, 71, 72, 73, 74, 75, 76, 77, 78, 79, 80, 81, 82, 83, 84, 85, 86, 87, 88, 89, 90, 97, 98, 99, 100, 101, 102, 103, 104, 105, 106, 107, 108, 109, 110, 111, 112, 113, 114, 115, 116, 117, 118, 119, 120, 121, 122] : List UInt8)) = decide (LetterP c.toNat)) (by decide +kernel) c)

theorem in_digits (c : UInt8) : Value.bool (decide (c ∈ ([48, 49, 50, 51, 52, 53, 54, 55, 56, 57] : List UInt8))) = .bool (decide (DigitP c.toNat)) := congrArg Value.bool (u8_all (p := fun c => decide (c ∈ ([48, 49, 50, 51, 52, 53, 54, 55, 56, 57] : List UInt8)) = decide (DigitP c.toNat)) (by decide +kernel) c)

theorem in_class2 : ∀ c : UInt8, (LetterP c.toNat ∨ DigitP c.toNat ∨ c ∈ ([33, 35, 36, 37, 38, 39, 42, 43, 45, 46, 94, 95, 96, 124, 126] : List UInt8)) ↔ TokenP c.toNat := u8_all (by decide +kernel)

theorem in_class3 : ∀ c : UInt8, (LetterP c.toNat ∨ DigitP c.toNat ∨ c ∈ ([45, 46, 95, 126] : List UInt8)) ↔ UnresP c.toNat := u8_all (by decide +kernel)

theorem in_class4 : ∀ c : UInt8, (LetterP c.toNat ∨ DigitP c.toNat ∨ c ∈ ([45, 46, 95, 126, 33, 36, 38, 39, 40, 41, 42, 43, 44, 59, 61, 58, 64] : List UInt8)) ↔ PathP c.toNat := u8_all (by decide +kernel)

theorem class5_spec (c : UInt8) : PureF Tryz.prog 53 [.int .u8 (c.toNat : Int), .int .i64 5] (.bool (decide (FieldP c.toNat))) := by
  have hu := c.toNat_lt
  refine PureF.intro go53 Tryz.func53 rfl rfl fun w0 hp => ?_
  refine K_seq ?_
  refine K_region ?_
  refine W_assign rfl rfl ?_
  refine W_nil ?_
  refine N_then_k ?_
  refine K_seq ?_
  refine K_region ?_
  refine W_move rfl rfl ?_
  refine W_pcall hp rfl (letters_spec) rfl ?_
  clear hp; intro w hp
  refine W_pcall hp rfl ((in_spec c [65, 66, 67, 68, 69, 70, 71, 72, 73, 74, 75, 76, 77, 78, 79, 80, 81, 82, 83, 84, 85, 86, 87, 88, 89, 90, 97, 98, 99, 100, 101, 102, 103, 104, 105, 106, 107, 108, 109, 110, 111, 112, 113, 114, 115, 116, 117, 118, 119, 120, 121, 122] (by decide)).eq (in_letters c)) rfl ?_
  clear hp; intro w hp
  refine W_assign rfl rfl ?_
  refine W_nil ?_
  refine N_then_k ?_
  refine K_seq ?_
  refine K_region ?_
  refine W_move rfl rfl ?_
  refine W_pcall hp rfl ((in_spec c [48, 49, 50, 51, 52, 53, 54, 55, 56, 57] (by decide)).eq (in_digits c)) rfl ?_
  clear hp; intro w hp
  refine W_assign rfl rfl ?_
  refine W_nil ?_
  refine N_then_k ?_
  refine K_seq ?_
  refine K_seq ?_
  refine K_region ?_
  refine W_move rfl rfl ?_
  refine W_nil ?_
  refine N_then_k ?_
  refine K_block ?_
  refine K_seq ?_
  refine K_region ?_
  first
    | (refine W_eql_t rfl rfl ?_ rfl ?_; (focus (omega)))
    | (refine W_eql_f rfl rfl ?_ rfl ?_; (focus (omega)))
    | (refine W_eql rfl rfl rfl ?_)
  refine W_assign rfl rfl ?_
  refine W_nil ?_
  refine N_then_k ?_
  first
    | refine K_cond_d rfl (fun hc1 => ?_) (fun hc1 => ?_)
    | refine K_cond_n rfl (fun hc1 => ?_) (fun hc1 => ?_)
    | refine K_cond_nb rfl (fun hc1 => ?_) (fun hc1 => ?_)
    | refine K_cond_t rfl (fun hc1 => ?_) (fun hc1 => ?_)
  · try (exfalso; first | omega | (simp only [Bool.false_eq_true, reduceCtorEq] at hc1; done) | (refine absurd hc1 ?_; with_reducible assumption) | (refine absurd ?_ hc1; with_reducible assumption))
    all_goals (
 refine K_seq ?_
 refine K_region ?_
 refine W_move rfl rfl ?_
 refine W_assign rfl rfl ?_
 refine W_nil ?_
 refine N_then_k ?_
 refine K_ret ?_
 refine N_block_ret ?_
 refine N_then_ret ?_
 refine N_done1 (.inr rfl) rfl rfl ?_
 refine ⟨_, rfl, congrArg Value.bool ?_, hp.nil⟩
 first
   | rfl
   | (refine Bool.eq_iff_iff.2 ?_; simp only [Bool.not_eq_true', decide_eq_true_eq, decide_eq_false_iff_not]; omega)
   | (refine (decide_eq_true ?_).symm; first | omega | (rw [← hcl]; first | exact Or.inl (by assumption) | exact Or.inr (Or.inl (by assumption)) | (constructor <;> intro h <;> first | exact Or.inr (Or.inr h) | (rcases h with h | h | h <;> first | exact h | contradiction))))
   | (refine (decide_eq_false ?_).symm; first | omega | (rw [← hcl]; first | exact Or.inl (by assumption) | exact Or.inr (Or.inl (by assumption)) | (constructor <;> intro h <;> first | exact Or.inr (Or.inr h) | (rcases h with h | h | h <;> first | exact h | contradiction))))
   | (refine decide_eq_decide.2 ?_; first | omega | (rw [← hcl]; first | exact Or.inl (by assumption) | exact Or.inr (Or.inl (by assumption)) | (constructor <;> intro h <;> first | exact Or.inr (Or.inr h) | (rcases h with h | h | h <;> first | exact h | contradiction)))))
  · try (exfalso; first | omega | (simp only [Bool.false_eq_true, reduceCtorEq] at hc1; done) | (refine absurd hc1 ?_; with_reducible assumption) | (refine absurd ?_ hc1; with_reducible assumption))
    all_goals (
 refine K_seq ?_
 refine K_region ?_
 first
   | (refine W_eql_t rfl rfl ?_ rfl ?_; (focus (omega)))
   | (refine W_eql_f rfl rfl ?_ rfl ?_; (focus (omega)))
   | (refine W_eql rfl rfl rfl ?_)
 refine W_assign rfl rfl ?_
 refine W_nil ?_
 refine N_then_k ?_
 first
   | refine K_cond_d rfl (fun hc2 => ?_) (fun hc2 => ?_)
   | refine K_cond_n rfl (fun hc2 => ?_) (fun hc2 => ?_)
   | refine K_cond_nb rfl (fun hc2 => ?_) (fun hc2 => ?_)
   | refine K_cond_t rfl (fun hc2 => ?_) (fun hc2 => ?_)
 · try (exfalso; first | omega | (simp only [Bool.false_eq_true, reduceCtorEq] at hc2; done) | (refine absurd hc2 ?_; with_reducible assumption) | (refine absurd ?_ hc2; with_reducible assumption))
   all_goals (
 refine K_seq ?_
 refine K_region ?_
 refine W_move rfl rfl ?_
 refine W_assign rfl rfl ?_
 refine W_nil ?_
 refine N_then_k ?_
 refine K_ret ?_
 refine N_block_ret ?_
 refine N_then_ret ?_
 refine N_done1 (.inr rfl) rfl rfl ?_
 refine ⟨_, rfl, congrArg Value.bool ?_, hp.nil⟩
 first
   | rfl
   | (refine Bool.eq_iff_iff.2 ?_; simp only [Bool.not_eq_true', decide_eq_true_eq, decide_eq_false_iff_not]; omega)
   | (refine (decide_eq_true ?_).symm; first | omega | (rw [← hcl]; first | exact Or.inl (by assumption) | exact Or.inr (Or.inl (by assumption)) | (constructor <;> intro h <;> first | exact Or.inr (Or.inr h) | (rcases h with h | h | h <;> first | exact h | contradiction))))
   | (refine (decide_eq_false ?_).symm; first | omega | (rw [← hcl]; first | exact Or.inl (by assumption) | exact Or.inr (Or.inl (by assumption)) | (constructor <;> intro h <;> first | exact Or.inr (Or.inr h) | (rcases h with h | h | h <;> first | exact h | contradiction))))
   | (refine decide_eq_decide.2 ?_; first | omega | (rw [← hcl]; first | exact Or.inl (by assumption) | exact Or.inr (Or.inl (by assumption)) | (constructor <;> intro h <;> first | exact Or.inr (Or.inr h) | (rcases h with h | h | h <;> first | exact h | contradiction)))))
 · try (exfalso; first | omega | (simp only [Bool.false_eq_true, reduceCtorEq] at hc2; done) | (refine absurd hc2 ?_; with_reducible assumption) | (refine absurd ?_ hc2; with_reducible assumption))
   all_goals (
 refine K_seq ?_
 refine K_region ?_
 first
   | (refine W_eql_t rfl rfl ?_ rfl ?_; (focus (omega)))
   | (refine W_eql_f rfl rfl ?_ rfl ?_; (focus (omega)))
   | (refine W_eql rfl rfl rfl ?_)
 refine W_assign rfl rfl ?_
 refine W_nil ?_
 refine N_then_k ?_
 first
   | refine K_cond_d rfl (fun hc3 => ?_) (fun hc3 => ?_)
   | refine K_cond_n rfl (fun hc3 => ?_) (fun hc3 => ?_)
   | refine K_cond_nb rfl (fun hc3 => ?_) (fun hc3 => ?_)
   | refine K_cond_t rfl (fun hc3 => ?_) (fun hc3 => ?_)
 · try (exfalso; first | omega | (simp only [Bool.false_eq_true, reduceCtorEq] at hc3; done) | (refine absurd hc3 ?_; with_reducible assumption) | (refine absurd ?_ hc3; with_reducible assumption))
   all_goals (
 refine K_seq ?_
 refine K_region ?_
 refine W_move rfl rfl ?_
 refine W_move rfl rfl ?_
 first
   | refine W_guard_lit_t rfl ?_
   | refine W_guard_lit_f rfl ?_
   | refine W_guard_lit_u rfl ?_
   | refine W_guard_split_d rfl rfl rfl (fun hg4 => ?_) (fun hg4 => ?_)
   | refine W_guard_split_n rfl rfl rfl (fun hg4 => ?_) (fun hg4 => ?_)
   | refine W_guard_split_nb rfl rfl rfl (fun hg4 => ?_) (fun hg4 => ?_)
   | refine W_guard_split rfl rfl rfl (fun hg4 => ?_) (fun hg4 => ?_)
 all_goals try (exfalso; first | omega | (simp only [Bool.false_eq_true, reduceCtorEq] at hg4; done) | (refine absurd hg4 ?_; with_reducible assumption) | (refine absurd ?_ hg4; with_reducible assumption))
 all_goals (
  first
    | (refine W_guard_no rfl rfl rfl ?_)
    | (refine W_guard_un rfl rfl ?_)
    | (refine W_guard_yes rfl ?_
       refine W_move rfl rfl ?_)
  first
    | (refine W_pick_t rfl rfl rfl ?_)
    | (refine W_pick_f rfl rfl rfl ?_)
    | (refine W_pick_b rfl rfl rfl rfl ?_)
  refine W_move rfl rfl ?_
  first
    | refine W_guard_lit_t rfl ?_
    | refine W_guard_lit_f rfl ?_
    | refine W_guard_lit_u rfl ?_
    | refine W_guard_split_d rfl rfl rfl (fun hg5 => ?_) (fun hg5 => ?_)
    | refine W_guard_split_n rfl rfl rfl (fun hg5 => ?_) (fun hg5 => ?_)
    | refine W_guard_split_nb rfl rfl rfl (fun hg5 => ?_) (fun hg5 => ?_)
    | refine W_guard_split rfl rfl rfl (fun hg5 => ?_) (fun hg5 => ?_)
  all_goals try (exfalso; first | omega | (simp only [Bool.false_eq_true, reduceCtorEq] at hg5; done) | (refine absurd hg5 ?_; with_reducible assumption) | (refine absurd ?_ hg5; with_reducible assumption))
  all_goals (
   first
     | (iterate 2 refine W_guard_no rfl rfl rfl ?_)
     | (iterate 2 refine W_guard_un rfl rfl ?_)
     | (refine W_guard_yes rfl ?_
        refine W_move rfl rfl ?_
        refine W_guard_yes rfl ?_
        refine W_pcall hp rfl (in_spec c [33, 35, 36, 37, 38, 39, 42, 43, 45, 46, 94, 95, 96, 124, 126] (by decide)) rfl ?_
        clear hp; intro w hp)
   first
     | (refine W_pick_t rfl rfl rfl ?_)
     | (refine W_pick_f rfl rfl rfl ?_)
     | (refine W_pick_b rfl rfl rfl rfl ?_)
   refine W_assign rfl rfl ?_
   refine W_nil ?_
   refine N_then_k ?_
   refine K_ret ?_
   refine N_block_ret ?_
   refine N_then_ret ?_
   refine N_done1 (.inr rfl) rfl rfl ?_
   refine ⟨_, rfl, congrArg Value.bool ?_, hp.nil⟩
   first
     | rfl
     | (refine Bool.eq_iff_iff.2 ?_; simp only [Bool.not_eq_true', decide_eq_true_eq, decide_eq_false_iff_not]; omega)
     | (refine (decide_eq_true ?_).symm; first | omega | (rw [← hcl]; first | exact Or.inl (by assumption) | exact Or.inr (Or.inl (by assumption)) | (constructor <;> intro h <;> first | exact Or.inr (Or.inr h) | (rcases h with h | h | h <;> first | exact h | contradiction))))
     | (refine (decide_eq_false ?_).symm; first | omega | (rw [← hcl]; first | exact Or.inl (by assumption) | exact Or.inr (Or.inl (by assumption)) | (constructor <;> intro h <;> first | exact Or.inr (Or.inr h) | (rcases h with h | h | h <;> first | exact h | contradiction))))
     | (refine decide_eq_decide.2 ?_; first | omega | (rw [← hcl]; first | exact Or.inl (by assumption) | exact Or.inr (Or.inl (by assumption)) | (constructor <;> intro h <;> first | exact Or.inr (Or.inr h) | (rcases h with h | h | h <;> first | exact h | contradiction)))))))
 · try (exfalso; first | omega | (simp only [Bool.false_eq_true, reduceCtorEq] at hc3; done) | (refine absurd hc3 ?_; with_reducible assumption) | (refine absurd ?_ hc3; with_reducible assumption))
   all_goals (
 refine K_seq ?_
 refine K_region ?_
 first
   | (refine W_eql_t rfl rfl ?_ rfl ?_; (focus (omega)))
   | (refine W_eql_f rfl rfl ?_ rfl ?_; (focus (omega)))
   | (refine W_eql rfl rfl rfl ?_)
 refine W_assign rfl rfl ?_
 refine W_nil ?_
 refine N_then_k ?_
 first
   | refine K_cond_d rfl (fun hc6 => ?_) (fun hc6 => ?_)
   | refine K_cond_n rfl (fun hc6 => ?_) (fun hc6 => ?_)
   | refine K_cond_nb rfl (fun hc6 => ?_) (fun hc6 => ?_)
   | refine K_cond_t rfl (fun hc6 => ?_) (fun hc6 => ?_)
 · try (exfalso; first | omega | (simp only [Bool.false_eq_true, reduceCtorEq] at hc6; done) | (refine absurd hc6 ?_; with_reducible assumption) | (refine absurd ?_ hc6; with_reducible assumption))
   all_goals (
 refine K_seq ?_
 refine K_region ?_
 refine W_move rfl rfl ?_
 refine W_move rfl rfl ?_
 first
   | refine W_guard_lit_t rfl ?_
   | refine W_guard_lit_f rfl ?_
   | refine W_guard_lit_u rfl ?_
   | refine W_guard_split_d rfl rfl rfl (fun hg7 => ?_) (fun hg7 => ?_)
   | refine W_guard_split_n rfl rfl rfl (fun hg7 => ?_) (fun hg7 => ?_)
   | refine W_guard_split_nb rfl rfl rfl (fun hg7 => ?_) (fun hg7 => ?_)
   | refine W_guard_split rfl rfl rfl (fun hg7 => ?_) (fun hg7 => ?_)
 all_goals try (exfalso; first | omega | (simp only [Bool.false_eq_true, reduceCtorEq] at hg7; done) | (refine absurd hg7 ?_; with_reducible assumption) | (refine absurd ?_ hg7; with_reducible assumption))
 all_goals (
  first
    | (refine W_guard_no rfl rfl rfl ?_)
    | (refine W_guard_un rfl rfl ?_)
    | (refine W_guard_yes rfl ?_
       refine W_move rfl rfl ?_)
  first
    | (refine W_pick_t rfl rfl rfl ?_)
    | (refine W_pick_f rfl rfl rfl ?_)
    | (refine W_pick_b rfl rfl rfl rfl ?_)
  refine W_move rfl rfl ?_
  first
    | refine W_guard_lit_t rfl ?_
    | refine W_guard_lit_f rfl ?_
    | refine W_guard_lit_u rfl ?_
    | refine W_guard_split_d rfl rfl rfl (fun hg8 => ?_) (fun hg8 => ?_)
    | refine W_guard_split_n rfl rfl rfl (fun hg8 => ?_) (fun hg8 => ?_)
    | refine W_guard_split_nb rfl rfl rfl (fun hg8 => ?_) (fun hg8 => ?_)
    | refine W_guard_split rfl rfl rfl (fun hg8 => ?_) (fun hg8 => ?_)
  all_goals try (exfalso; first | omega | (simp only [Bool.false_eq_true, reduceCtorEq] at hg8; done) | (refine absurd hg8 ?_; with_reducible assumption) | (refine absurd ?_ hg8; with_reducible assumption))
  all_goals (
   first
     | (iterate 2 refine W_guard_no rfl rfl rfl ?_)
     | (iterate 2 refine W_guard_un rfl rfl ?_)
     | (refine W_guard_yes rfl ?_
        refine W_move rfl rfl ?_
        refine W_guard_yes rfl ?_
        refine W_pcall hp rfl (in_spec c [45, 46, 95, 126] (by decide)) rfl ?_
        clear hp; intro w hp)
   first
     | (refine W_pick_t rfl rfl rfl ?_)
     | (refine W_pick_f rfl rfl rfl ?_)
     | (refine W_pick_b rfl rfl rfl rfl ?_)
   refine W_assign rfl rfl ?_
   refine W_nil ?_
   refine N_then_k ?_
   refine K_ret ?_
   refine N_block_ret ?_
   refine N_then_ret ?_
   refine N_done1 (.inr rfl) rfl rfl ?_
   refine ⟨_, rfl, congrArg Value.bool ?_, hp.nil⟩
   first
     | rfl
     | (refine Bool.eq_iff_iff.2 ?_; simp only [Bool.not_eq_true', decide_eq_true_eq, decide_eq_false_iff_not]; omega)
     | (refine (decide_eq_true ?_).symm; first | omega | (rw [← hcl]; first | exact Or.inl (by assumption) | exact Or.inr (Or.inl (by assumption)) | (constructor <;> intro h <;> first | exact Or.inr (Or.inr h) | (rcases h with h | h | h <;> first | exact h | contradiction))))
     | (refine (decide_eq_false ?_).symm; first | omega | (rw [← hcl]; first | exact Or.inl (by assumption) | exact Or.inr (Or.inl (by assumption)) | (constructor <;> intro h <;> first | exact Or.inr (Or.inr h) | (rcases h with h | h | h <;> first | exact h | contradiction))))
     | (refine decide_eq_decide.2 ?_; first | omega | (rw [← hcl]; first | exact Or.inl (by assumption) | exact Or.inr (Or.inl (by assumption)) | (constructor <;> intro h <;> first | exact Or.inr (Or.inr h) | (rcases h with h | h | h <;> first | exact h | contradiction)))))))
 · try (exfalso; first | omega | (simp only [Bool.false_eq_true, reduceCtorEq] at hc6; done) | (refine absurd hc6 ?_; with_reducible assumption) | (refine absurd ?_ hc6; with_reducible assumption))
   all_goals (
 refine K_seq ?_
 refine K_region ?_
 first
   | (refine W_eql_t rfl rfl ?_ rfl ?_; (focus (omega)))
   | (refine W_eql_f rfl rfl ?_ rfl ?_; (focus (omega)))
   | (refine W_eql rfl rfl rfl ?_)
 refine W_assign rfl rfl ?_
 refine W_nil ?_
 refine N_then_k ?_
 first
   | refine K_cond_d rfl (fun hc9 => ?_) (fun hc9 => ?_)
   | refine K_cond_n rfl (fun hc9 => ?_) (fun hc9 => ?_)
   | refine K_cond_nb rfl (fun hc9 => ?_) (fun hc9 => ?_)
   | refine K_cond_t rfl (fun hc9 => ?_) (fun hc9 => ?_)
 · try (exfalso; first | omega | (simp only [Bool.false_eq_true, reduceCtorEq] at hc9; done) | (refine absurd hc9 ?_; with_reducible assumption) | (refine absurd ?_ hc9; with_reducible assumption))
   all_goals (
 refine K_seq ?_
 refine K_region ?_
 refine W_move rfl rfl ?_
 refine W_move rfl rfl ?_
 first
   | refine W_guard_lit_t rfl ?_
   | refine W_guard_lit_f rfl ?_
   | refine W_guard_lit_u rfl ?_
   | refine W_guard_split_d rfl rfl rfl (fun hg10 => ?_) (fun hg10 => ?_)
   | refine W_guard_split_n rfl rfl rfl (fun hg10 => ?_) (fun hg10 => ?_)
   | refine W_guard_split_nb rfl rfl rfl (fun hg10 => ?_) (fun hg10 => ?_)
   | refine W_guard_split rfl rfl rfl (fun hg10 => ?_) (fun hg10 => ?_)
 all_goals try (exfalso; first | omega | (simp only [Bool.false_eq_true, reduceCtorEq] at hg10; done) | (refine absurd hg10 ?_; with_reducible assumption) | (refine absurd ?_ hg10; with_reducible assumption))
 all_goals (
  first
    | (refine W_guard_no rfl rfl rfl ?_)
    | (refine W_guard_un rfl rfl ?_)
    | (refine W_guard_yes rfl ?_
       refine W_move rfl rfl ?_)
  first
    | (refine W_pick_t rfl rfl rfl ?_)
    | (refine W_pick_f rfl rfl rfl ?_)
    | (refine W_pick_b rfl rfl rfl rfl ?_)
  refine W_move rfl rfl ?_
  first
    | refine W_guard_lit_t rfl ?_
    | refine W_guard_lit_f rfl ?_
    | refine W_guard_lit_u rfl ?_
    | refine W_guard_split_d rfl rfl rfl (fun hg11 => ?_) (fun hg11 => ?_)
    | refine W_guard_split_n rfl rfl rfl (fun hg11 => ?_) (fun hg11 => ?_)
    | refine W_guard_split_nb rfl rfl rfl (fun hg11 => ?_) (fun hg11 => ?_)
    | refine W_guard_split rfl rfl rfl (fun hg11 => ?_) (fun hg11 => ?_)
  all_goals try (exfalso; first | omega | (simp only [Bool.false_eq_true, reduceCtorEq] at hg11; done) | (refine absurd hg11 ?_; with_reducible assumption) | (refine absurd ?_ hg11; with_reducible assumption))
  all_goals (
   first
     | (iterate 2 refine W_guard_no rfl rfl rfl ?_)
     | (iterate 2 refine W_guard_un rfl rfl ?_)
     | (refine W_guard_yes rfl ?_
        refine W_move rfl rfl ?_
        refine W_guard_yes rfl ?_
        refine W_pcall hp rfl (in_spec c [45, 46, 95, 126, 33, 36, 38, 39, 40, 41, 42, 43, 44, 59, 61, 58, 64] (by decide)) rfl ?_
        clear hp; intro w hp)
   first
     | (refine W_pick_t rfl rfl rfl ?_)
     | (refine W_pick_f rfl rfl rfl ?_)
     | (refine W_pick_b rfl rfl rfl rfl ?_)
   refine W_assign rfl rfl ?_
   refine W_nil ?_
   refine N_then_k ?_
   refine K_ret ?_
   refine N_block_ret ?_
   refine N_then_ret ?_
   refine N_done1 (.inr rfl) rfl rfl ?_
   refine ⟨_, rfl, congrArg Value.bool ?_, hp.nil⟩
   first
     | rfl
     | (refine Bool.eq_iff_iff.2 ?_; simp only [Bool.not_eq_true', decide_eq_true_eq, decide_eq_false_iff_not]; omega)
     | (refine (decide_eq_true ?_).symm; first | omega | (rw [← hcl]; first | exact Or.inl (by assumption) | exact Or.inr (Or.inl (by assumption)) | (constructor <;> intro h <;> first | exact Or.inr (Or.inr h) | (rcases h with h | h | h <;> first | exact h | contradiction))))
     | (refine (decide_eq_false ?_).symm; first | omega | (rw [← hcl]; first | exact Or.inl (by assumption) | exact Or.inr (Or.inl (by assumption)) | (constructor <;> intro h <;> first | exact Or.inr (Or.inr h) | (rcases h with h | h | h <;> first | exact h | contradiction))))
     | (refine decide_eq_decide.2 ?_; first | omega | (rw [← hcl]; first | exact Or.inl (by assumption) | exact Or.inr (Or.inl (by assumption)) | (constructor <;> intro h <;> first | exact Or.inr (Or.inr h) | (rcases h with h | h | h <;> first | exact h | contradiction)))))))
 · try (exfalso; first | omega | (simp only [Bool.false_eq_true, reduceCtorEq] at hc9; done) | (refine absurd hc9 ?_; with_reducible assumption) | (refine absurd ?_ hc9; with_reducible assumption))
   all_goals (
 refine K_skip ?_
 refine N_block_normal ?_
 refine N_then_k ?_
 refine K_seq ?_
 refine K_region ?_
 refine W_move rfl rfl ?_
 first
   | (refine W_eql_t rfl rfl ?_ rfl ?_; (focus (omega)))
   | (refine W_eql_f rfl rfl ?_ rfl ?_; (focus (omega)))
   | (refine W_eql rfl rfl rfl ?_)
 refine W_move rfl rfl ?_
 first
   | refine W_guard_lit_t rfl ?_
   | refine W_guard_lit_f rfl ?_
   | refine W_guard_lit_u rfl ?_
   | refine W_guard_split_d rfl rfl rfl (fun hg12 => ?_) (fun hg12 => ?_)
   | refine W_guard_split_n rfl rfl rfl (fun hg12 => ?_) (fun hg12 => ?_)
   | refine W_guard_split_nb rfl rfl rfl (fun hg12 => ?_) (fun hg12 => ?_)
   | refine W_guard_split rfl rfl rfl (fun hg12 => ?_) (fun hg12 => ?_)
 all_goals try (exfalso; first | omega | (simp only [Bool.false_eq_true, reduceCtorEq] at hg12; done) | (refine absurd hg12 ?_; with_reducible assumption) | (refine absurd ?_ hg12; with_reducible assumption))
 all_goals (
  first
    | (iterate 3 refine W_guard_no rfl rfl rfl ?_)
    | (iterate 3 refine W_guard_un rfl rfl ?_)
    | (refine W_guard_yes rfl ?_
       refine W_move rfl rfl ?_
       refine W_guard_yes rfl ?_
       first
         | (refine W_geq_t rfl rfl ?_ rfl ?_; (focus (omega)))
         | (refine W_geq_f rfl rfl ?_ rfl ?_; (focus (omega)))
         | (refine W_geq rfl rfl rfl ?_)
       refine W_guard_yes rfl ?_
       refine W_move rfl rfl ?_)
  first
    | refine W_guard_lit_t rfl ?_
    | refine W_guard_lit_f rfl ?_
    | refine W_guard_lit_u rfl ?_
    | refine W_guard_split_d rfl rfl rfl (fun hg13 => ?_) (fun hg13 => ?_)
    | refine W_guard_split_n rfl rfl rfl (fun hg13 => ?_) (fun hg13 => ?_)
    | refine W_guard_split_nb rfl rfl rfl (fun hg13 => ?_) (fun hg13 => ?_)
    | refine W_guard_split rfl rfl rfl (fun hg13 => ?_) (fun hg13 => ?_)
  all_goals try (exfalso; first | omega | (simp only [Bool.false_eq_true, reduceCtorEq] at hg13; done) | (refine absurd hg13 ?_; with_reducible assumption) | (refine absurd ?_ hg13; with_reducible assumption))
  all_goals (
   first
     | (iterate 2 refine W_guard_no rfl rfl rfl ?_)
     | (iterate 2 refine W_guard_un rfl rfl ?_)
     | (refine W_guard_yes rfl ?_
        refine W_move rfl rfl ?_
        refine W_guard_yes rfl ?_
        first
          | (refine W_neq_t rfl rfl ?_ rfl ?_; (focus (omega)))
          | (refine W_neq_f rfl rfl ?_ rfl ?_; (focus (omega)))
          | (refine W_neq rfl rfl rfl ?_))
   first
     | (refine W_guard_no rfl rfl rfl ?_)
     | (refine W_guard_un rfl rfl ?_)
     | (refine W_guard_yes rfl ?_
        first
          | (refine W_pick_t rfl rfl rfl ?_)
          | (refine W_pick_f rfl rfl rfl ?_)
          | (refine W_pick_b rfl rfl rfl rfl ?_))
   first
     | (refine W_pick_t rfl rfl rfl ?_)
     | (refine W_pick_f rfl rfl rfl ?_)
     | (refine W_pick_b rfl rfl rfl rfl ?_)
   refine W_assign rfl rfl ?_
   refine W_nil ?_
   refine N_then_k ?_
   refine K_ret ?_
   refine N_done1 (.inr rfl) rfl rfl ?_
   refine ⟨_, rfl, congrArg Value.bool ?_, hp.nil⟩
   first
     | rfl
     | (refine Bool.eq_iff_iff.2 ?_; simp only [Bool.not_eq_true', decide_eq_true_eq, decide_eq_false_iff_not]; omega)
     | (refine (decide_eq_true ?_).symm; first | omega | (rw [← hcl]; first | exact Or.inl (by assumption) | exact Or.inr (Or.inl (by assumption)) | (constructor <;> intro h <;> first | exact Or.inr (Or.inr h) | (rcases h with h | h | h <;> first | exact h | contradiction))))
     | (refine (decide_eq_false ?_).symm; first | omega | (rw [← hcl]; first | exact Or.inl (by assumption) | exact Or.inr (Or.inl (by assumption)) | (constructor <;> intro h <;> first | exact Or.inr (Or.inr h) | (rcases h with h | h | h <;> first | exact h | contradiction))))
     | (refine decide_eq_decide.2 ?_; first | omega | (rw [← hcl]; first | exact Or.inl (by assumption) | exact Or.inr (Or.inl (by assumption)) | (constructor <;> intro h <;> first | exact Or.inr (Or.inr h) | (rcases h with h | h | h <;> first | exact h | contradiction)))))))))))

theorem rall5_spec (s : List UInt8) (hl : s.length ≤ 9000000000000000000) : PureF Tryz.prog 35 [.string ⟨s.toArray⟩, .int .i64 5] (.bool (s.all fieldB)) := by
  refine PureF.intro go35 Tryz.func35 rfl rfl fun w0 hp => ?_
  refine K_seq ?_
  refine K_region ?_
  refine W_assign rfl rfl ?_
  refine W_nil ?_
  refine N_then_k ?_
  refine K_seq ?_
  refine K_seq ?_
  refine K_region ?_
  refine W_assign rfl rfl ?_
  refine W_nil ?_
  refine N_then_k ?_
  refine K_block ?_
  refine K_loop (σ := Nat) [4, 5, 6, 7, 8, 9, 10, 11, 12, 13, 14, 15, 16, 17]
      (fun k => [(5, .int .i64 k)])
      (fun k w => Hp w0 [] [] w ∧ k ≤ s.length ∧ (s.take k).all fieldB = true)
      (fun k => s.length - k) (0) ?_ ?_ ?_
  · repeat' (first | exact sub_lst_nil (sub_nil _) | refine sub_lst rfl ?_ | (refine sub_lst_eq rfl ?_ ?_; · first | rfl | (simp; done) | (congr 1; omega)))
  · exact ⟨hp, Nat.zero_le _, by simp⟩
  · intro k w hJ
    clear hp
    obtain ⟨hp, hle, ha⟩ := hJ
    rcases Nat.lt_or_ge k (s.length) with hlt | hge
    all_goals (
 refine K_seq ?_
 refine K_seq ?_
 refine K_region ?_
 refine W_move rfl rfl ?_
 refine W_move rfl rfl ?_
 refine W_len_s Tryz.underlying9 rfl rfl ?_
 first
   | (refine W_lss_t rfl rfl ?_ rfl ?_; (focus (omega)))
   | (refine W_lss_f rfl rfl ?_ rfl ?_; (focus (omega)))
   | (refine W_lss rfl rfl rfl ?_)
 refine W_nil ?_
 refine N_then_k ?_
 first
   | refine K_cond_d rfl (fun hc1 => ?_) (fun hc1 => ?_)
   | refine K_cond_n rfl (fun hc1 => ?_) (fun hc1 => ?_)
   | refine K_cond_nb rfl (fun hc1 => ?_) (fun hc1 => ?_)
   | refine K_cond_t rfl (fun hc1 => ?_) (fun hc1 => ?_)
 · try (exfalso; first | omega | (simp only [Bool.false_eq_true, reduceCtorEq] at hc1; done) | (refine absurd hc1 ?_; with_reducible assumption) | (refine absurd ?_ hc1; with_reducible assumption))
   all_goals (
 refine K_skip ?_
 refine N_then_k ?_
 refine K_seq ?_
 refine K_block ?_
 refine K_seq ?_
 refine K_region ?_
 obtain ⟨c, hc⟩ : ∃ c, s[k]? = some c := ⟨_, List.getElem?_eq_getElem hlt⟩
 refine W_move rfl rfl ?_
 refine W_move rfl rfl ?_
 refine W_index_s Tryz.underlying9 rfl rfl ?_ (by first | with_reducible assumption | assumption | exact rfl | exact idx_getD (by first | omega | (simp; omega))) rfl ?_
 (focus (omega))
 refine W_move rfl rfl ?_
 refine W_pcall hp rfl (class5_spec c) rfl ?_
 clear hp; intro w hp
 first
   | (refine W_not_t rfl rfl ?_)
   | (refine W_not_f rfl rfl ?_)
   | (refine W_not rfl rfl ?_)
 refine W_nil ?_
 refine N_then_k ?_
 first
   | refine K_cond_d rfl (fun hc2 => ?_) (fun hc2 => ?_)
   | refine K_cond_n rfl (fun hc2 => ?_) (fun hc2 => ?_)
   | refine K_cond_nb rfl (fun hc2 => ?_) (fun hc2 => ?_)
   | refine K_cond_t rfl (fun hc2 => ?_) (fun hc2 => ?_)
 · try (exfalso; first | omega | (simp only [Bool.false_eq_true, reduceCtorEq] at hc2; done) | (refine absurd hc2 ?_; with_reducible assumption) | (refine absurd ?_ hc2; with_reducible assumption))
   all_goals (
 refine K_seq ?_
 refine K_region ?_
 refine W_assign rfl rfl ?_
 refine W_nil ?_
 refine N_then_k ?_
 refine K_ret ?_
 refine N_block_ret ?_
 refine N_then_ret ?_
 refine N_then_ret ?_
 refine N_block_ret ?_
 refine N_then_ret ?_
 refine N_done1 (.inr rfl) rfl rfl ?_
 refine ⟨_, rfl, congrArg Value.bool ?_, hp.nil⟩
 first
   | (rw [all_not hc (decide_eq_false (by assumption))])
   | (rw [List.take_of_length_le ‹s.length ≤ k›] at ha; rw [ha]))
 · try (exfalso; first | omega | (simp only [Bool.false_eq_true, reduceCtorEq] at hc2; done) | (refine absurd hc2 ?_; with_reducible assumption) | (refine absurd ?_ hc2; with_reducible assumption))
   all_goals (
 refine K_skip ?_
 refine N_block_normal ?_
 refine N_then_k ?_
 refine K_region ?_
 refine W_move rfl rfl ?_
 first
   | (refine W_add rfl rfl (wr_i64 ?_) rfl ?_; (focus (omega)))
   | (refine W_add rfl rfl rfl rfl ?_)
 refine W_assign rfl rfl ?_
 refine W_nil ?_
 refine N_again (k + 1) (sub_end ?_ ?_) ?_ ?_
 · repeat' (first | exact sub_lst_nil (sub_nil _) | refine sub_lst rfl ?_ | (refine sub_lst_eq rfl ?_ ?_; · first | rfl | (simp; done) | (congr 1; omega)))
 · repeat' (first | exact sub_refl _ | exact sub_strip _ _ | refine sub_s_cons rfl ?_ | refine sub_s_lst rfl ?_ | refine sub_s_strip rfl ?_)
 · refine ⟨hp, hlt, ?_⟩
   rw [all_take hc, ha]; exact (Bool.true_and _).trans (decide_eq_true (by assumption))
 · omega))
 · try (exfalso; first | omega | (simp only [Bool.false_eq_true, reduceCtorEq] at hc1; done) | (refine absurd hc1 ?_; with_reducible assumption) | (refine absurd ?_ hc1; with_reducible assumption))
   all_goals (
 refine K_exit ?_
 refine N_then_exit ?_
 refine N_then_exit ?_
 refine N_block_exit ?_
 refine N_then_k ?_
 refine K_seq ?_
 refine K_region ?_
 refine W_assign rfl rfl ?_
 refine W_nil ?_
 refine N_then_k ?_
 refine K_ret ?_
 refine N_done1 (.inr rfl) rfl rfl ?_
 refine ⟨_, rfl, congrArg Value.bool ?_, hp.nil⟩
 first
   | (rw [all_not hc (decide_eq_false (by assumption))])
   | (rw [List.take_of_length_le ‹s.length ≤ k›] at ha; rw [ha])))

theorem at_or (s : List UInt8) (k : Nat) : s.length ≤ k ∨ ∃ c, s[k]? = some c ∧ k < s.length := by
  rcases Nat.lt_or_ge k s.length with h | h
  · exact .inr ⟨_, List.getElem?_eq_getElem h, h⟩
  · exact .inl h
theorem cut_or {s : List UInt8} {f g : Nat} (h : g ≤ s.length) : g ≤ f ∨ ∃ c, s[((g : Int) - 1).toNat]? = some c ∧ f < g := by
  rcases Nat.lt_or_ge f g with h1 | h1
  · exact .inr ⟨_, List.getElem?_eq_getElem (by omega), h1⟩
  · exact .inl h1
theorem drop_at {s : List UInt8} {k : Nat} {c : UInt8} (h : s[k]? = some c) : s.drop k = c :: s.drop (k + 1) := by
  have hk := (List.getElem?_eq_some_iff.1 h).1
  rw [List.drop_eq_getElem_cons hk, (List.getElem?_eq_some_iff.1 h).2]
theorem drop_trim {s : List UInt8} {k : Nat} {c : UInt8} (h : s[k]? = some c) (hb : BlankP c.toNat) : trimL (s.drop k) = trimL (s.drop (k + 1)) := by
  rw [drop_at h, trimL_cons_blank (decide_eq_true hb)]
theorem trim_stop {s : List UInt8} {k : Nat} (ha : trimL s = trimL (s.drop k)) (h : s.length ≤ k ∨ ∃ c, s[k]? = some c ∧ ¬ BlankP c.toNat) : trimL s = s.drop k := by
  rw [ha]
  rcases h with h | ⟨c, h, hb⟩
  · rw [List.drop_of_length_le h]; rfl
  · rw [drop_at h, trimL_cons (decide_eq_false hb)]
theorem take_at {s : List UInt8} {g : Nat} {c : UInt8} (h : s[((g : Int) - 1).toNat]? = some c) (hg : 0 < g) : s.take g = s.take (g - 1) ++ [c] := by
  have e : ((g : Int) - 1).toNat = g - 1 := by omega
  rw [e] at h
  obtain ⟨q, rfl⟩ : ∃ q, g = q + 1 := ⟨g - 1, by omega⟩
  simp only [Nat.add_sub_cancel] at h ⊢
  rw [List.take_add_one, h]; rfl
theorem cut_at {s : List UInt8} {f g : Nat} {c : UInt8} (h : s[((g : Int) - 1).toNat]? = some c) (hg : f < g) : (s.take g).drop f = (s.take (g - 1)).drop f ++ [c] := by
  have hk := (List.getElem?_eq_some_iff.1 h).1
  rw [take_at h (by omega), List.drop_append_of_le_length (by simp; omega)]
theorem cut_trim {s : List UInt8} {f g : Nat} {c : UInt8} (h : s[((g : Int) - 1).toNat]? = some c) (hg : f < g) (hb : BlankP c.toNat) : trimR ((s.take (g - 1)).drop f) = trimR ((s.take g).drop f) := by
  rw [cut_at h hg, trimR_snoc_blank (decide_eq_true hb)]
theorem slice_trim {s : List UInt8} {f g : Nat} (h1 : trimL s = s.drop f) (h2 : f ≤ s.length) (h3 : f ≤ g) (h4 : g ≤ s.length) (h5 : trimR ((s.take g).drop f) = trimR (s.drop f)) (h6 : g ≤ f ∨ ∃ c, s[((g : Int) - 1).toNat]? = some c ∧ ¬ BlankP c.toNat) :
    (s.drop (f : Int).toNat).take ((g : Int).toNat - (f : Int).toNat) = trim s := by
  simp only [Int.toNat_natCast]
  rw [← List.drop_take]
  unfold trim
  rw [h1, ← h5]
  rcases Nat.lt_or_ge f g with h | h
  · obtain ⟨c, hc, hb⟩ := h6.resolve_left (by omega)
    rw [cut_at hc h, trimR_snoc (decide_eq_false hb)]
  · rw [List.drop_of_length_le (by simp; omega)]; rfl

theorem rtrim_spec (s : List UInt8) (hl : s.length ≤ 9000000000000000000) : PureF Tryz.prog 36 [.string ⟨s.toArray⟩] (.string ⟨(trim s).toArray⟩) := by
  refine PureF.intro go36 Tryz.func36 rfl rfl fun w0 hp => ?_
  refine K_seq ?_
  refine K_region ?_
  refine W_assign rfl rfl ?_
  refine W_nil ?_
  refine N_then_k ?_
  refine K_seq ?_
  refine K_region ?_
  refine W_assign rfl rfl ?_
  refine W_nil ?_
  refine N_then_k ?_
  refine K_mid (σ := Nat) [3, 5, 6, 7, 8, 9, 10, 11, 12, 13, 14, 15, 16, 17, 18, 19, 20, 21, 22]
      (fun f => [(3, .int .i64 f)])
      (fun f w => Hp w0 [] [] w ∧ f ≤ s.length ∧ trimL s = s.drop f) ?_ ?_
  · refine K_block ?_
    refine K_loop (σ := Nat) [3, 5, 6, 7, 8, 9, 10, 11, 12, 13, 14, 15, 16, 17, 18, 19, 20, 21, 22]
        (fun k => [(3, .int .i64 k)])
        (fun k w => Hp w0 [] [] w ∧ k ≤ s.length ∧ trimL s = trimL (s.drop k))
        (fun k => s.length - k) (0) ?_ ?_ ?_
    · repeat' (first | exact sub_lst_nil (sub_nil _) | refine sub_lst rfl ?_ | (refine sub_lst_eq rfl ?_ ?_; · first | rfl | (simp; done) | (congr 1; omega)))
    · exact ⟨hp, Nat.zero_le _, rfl⟩
    · intro k w hJ
      clear hp
      obtain ⟨hp, hle, ha⟩ := hJ
      rcases at_or s k with hge | ⟨c, hc, hlt⟩
      all_goals (
 refine K_seq ?_
 refine K_seq ?_
 refine K_region ?_
 refine W_move rfl rfl ?_
 refine W_move rfl rfl ?_
 refine W_len_s Tryz.underlying9 rfl rfl ?_
 first
   | (refine W_lss_t rfl rfl ?_ rfl ?_; (focus (omega)))
   | (refine W_lss_f rfl rfl ?_ rfl ?_; (focus (omega)))
   | (refine W_lss rfl rfl rfl ?_)
 refine W_move rfl rfl ?_
 first
   | refine W_guard_lit_t rfl ?_
   | refine W_guard_lit_f rfl ?_
   | refine W_guard_lit_u rfl ?_
   | refine W_guard_split_d rfl rfl rfl (fun hg1 => ?_) (fun hg1 => ?_)
   | refine W_guard_split_n rfl rfl rfl (fun hg1 => ?_) (fun hg1 => ?_)
   | refine W_guard_split_nb rfl rfl rfl (fun hg1 => ?_) (fun hg1 => ?_)
   | refine W_guard_split rfl rfl rfl (fun hg1 => ?_) (fun hg1 => ?_)
 all_goals try (exfalso; first | omega | (simp only [Bool.false_eq_true, reduceCtorEq] at hg1; done) | (refine absurd hg1 ?_; with_reducible assumption) | (refine absurd ?_ hg1; with_reducible assumption))
 all_goals (
  first
    | (iterate 5 refine W_guard_no rfl rfl rfl ?_)
    | (iterate 5 refine W_guard_un rfl rfl ?_)
    | (refine W_guard_yes rfl ?_
       refine W_move rfl rfl ?_
       refine W_guard_yes rfl ?_
       refine W_move rfl rfl ?_
       refine W_guard_yes rfl ?_
       refine W_index_s Tryz.underlying9 rfl rfl ?_ (by first | with_reducible assumption | assumption | exact rfl | exact idx_getD (by first | omega | (simp; omega))) rfl ?_
       (focus (omega))
       refine W_guard_yes rfl ?_
       first
         | (refine W_eql_t rfl rfl ?_ rfl ?_; (focus (omega)))
         | (refine W_eql_f rfl rfl ?_ rfl ?_; (focus (omega)))
         | (refine W_eql rfl rfl rfl ?_)
       refine W_guard_yes rfl ?_
       refine W_move rfl rfl ?_)
  first
    | refine W_guard_lit_t rfl ?_
    | refine W_guard_lit_f rfl ?_
    | refine W_guard_lit_u rfl ?_
    | refine W_guard_split_d rfl rfl rfl (fun hg2 => ?_) (fun hg2 => ?_)
    | refine W_guard_split_n rfl rfl rfl (fun hg2 => ?_) (fun hg2 => ?_)
    | refine W_guard_split_nb rfl rfl rfl (fun hg2 => ?_) (fun hg2 => ?_)
    | refine W_guard_split rfl rfl rfl (fun hg2 => ?_) (fun hg2 => ?_)
  all_goals try (exfalso; first | omega | (simp only [Bool.false_eq_true, reduceCtorEq] at hg2; done) | (refine absurd hg2 ?_; with_reducible assumption) | (refine absurd ?_ hg2; with_reducible assumption))
  all_goals (
   first
     | (iterate 4 refine W_guard_no rfl rfl rfl ?_)
     | (iterate 4 refine W_guard_un rfl rfl ?_)
     | (refine W_guard_yes rfl ?_
        refine W_move rfl rfl ?_
        refine W_guard_yes rfl ?_
        refine W_move rfl rfl ?_
        refine W_guard_yes rfl ?_
        refine W_index_s Tryz.underlying9 rfl rfl ?_ (by first | with_reducible assumption | assumption | exact rfl | exact idx_getD (by first | omega | (simp; omega))) rfl ?_
        (focus (omega))
        refine W_guard_yes rfl ?_
        first
          | (refine W_eql_t rfl rfl ?_ rfl ?_; (focus (omega)))
          | (refine W_eql_f rfl rfl ?_ rfl ?_; (focus (omega)))
          | (refine W_eql rfl rfl rfl ?_))
   first
     | (refine W_guard_no rfl rfl rfl ?_)
     | (refine W_guard_un rfl rfl ?_)
     | (refine W_guard_yes rfl ?_
        first
          | (refine W_pick_t rfl rfl rfl ?_)
          | (refine W_pick_f rfl rfl rfl ?_)
          | (refine W_pick_b rfl rfl rfl rfl ?_))
   first
     | (refine W_pick_t rfl rfl rfl ?_)
     | (refine W_pick_f rfl rfl rfl ?_)
     | (refine W_pick_b rfl rfl rfl rfl ?_)
   refine W_nil ?_
   refine N_then_k ?_
   first
     | refine K_cond_d rfl (fun hc3 => ?_) (fun hc3 => ?_)
     | refine K_cond_n rfl (fun hc3 => ?_) (fun hc3 => ?_)
     | refine K_cond_nb rfl (fun hc3 => ?_) (fun hc3 => ?_)
     | refine K_cond_t rfl (fun hc3 => ?_) (fun hc3 => ?_)
   · try (exfalso; first | omega | (simp only [Bool.false_eq_true, reduceCtorEq] at hc3; done) | (refine absurd hc3 ?_; with_reducible assumption) | (refine absurd ?_ hc3; with_reducible assumption))
     all_goals (
 refine K_skip ?_
 refine N_then_k ?_
 refine K_block ?_
 refine K_region ?_
 refine W_move rfl rfl ?_
 first
   | (refine W_add rfl rfl (wr_i64 ?_) rfl ?_; (focus (omega)))
   | (refine W_add rfl rfl rfl rfl ?_)
 refine W_assign rfl rfl ?_
 refine W_nil ?_
 refine N_block_normal ?_
 refine N_again (k + 1) (sub_end ?_ ?_) ?_ ?_
 · repeat' (first | exact sub_lst_nil (sub_nil _) | refine sub_lst rfl ?_ | (refine sub_lst_eq rfl ?_ ?_; · first | rfl | (simp; done) | (congr 1; omega)))
 · repeat' (first | exact sub_refl _ | exact sub_strip _ _ | refine sub_s_cons rfl ?_ | refine sub_s_lst rfl ?_ | refine sub_s_strip rfl ?_)
 · refine ⟨hp, hlt, ?_⟩
   rw [ha, drop_trim hc (by omega)]
 · omega)
   · try (exfalso; first | omega | (simp only [Bool.false_eq_true, reduceCtorEq] at hc3; done) | (refine absurd hc3 ?_; with_reducible assumption) | (refine absurd ?_ hc3; with_reducible assumption))
     all_goals (
 refine K_exit ?_
 refine N_then_exit ?_
 refine N_then_exit ?_
 refine N_block_exit ?_
 refine N_mid (k) (sub_end ?_ ?_) ?_
 · repeat' (first | exact sub_lst_nil (sub_nil _) | refine sub_lst rfl ?_ | (refine sub_lst_eq rfl ?_ ?_; · first | rfl | (simp; done) | (congr 1; omega)))
 · repeat' (first | exact sub_refl _ | exact sub_strip _ _ | refine sub_s_cons rfl ?_ | refine sub_s_lst rfl ?_ | refine sub_s_strip rfl ?_)
 · refine ⟨hp, hle, ?_⟩
   first
     | exact trim_stop (k := k) ha (.inl (by omega))
     | exact trim_stop (k := k) ha (.inr ⟨c, hc, by omega⟩)))))
  · intro f w hJ
    clear hp
    obtain ⟨hp, hle, hf1⟩ := hJ
    refine K_seq ?_
    refine K_region ?_
    refine W_move rfl rfl ?_
    refine W_len_s Tryz.underlying9 rfl rfl ?_
    refine W_assign rfl rfl ?_
    refine W_nil ?_
    refine N_then_k ?_
    refine K_mid (σ := Nat) [4, 25, 26, 27, 28, 29, 30, 31, 32, 33, 34, 35, 36, 37, 38, 39, 40, 41, 42, 43]
        (fun g => [(4, .int .i64 g)])
        (fun g w => Hp w0 [] [] w ∧ g ≤ s.length ∧ f ≤ g ∧ trimR ((s.take g).drop f) = trimR (s.drop f) ∧ (g ≤ f ∨ ∃ c, s[((g:Int) - 1).toNat]? = some c ∧ ¬ BlankP c.toNat)) ?_ ?_
    · refine K_block ?_
      refine K_loop (σ := Nat) [4, 25, 26, 27, 28, 29, 30, 31, 32, 33, 34, 35, 36, 37, 38, 39, 40, 41, 42, 43]
          (fun g => [(4, .int .i64 g)])
          (fun g w => Hp w0 [] [] w ∧ g ≤ s.length ∧ f ≤ g ∧ trimR ((s.take g).drop f) = trimR (s.drop f))
          (fun g => g) (s.length) ?_ ?_ ?_
      · repeat' (first | exact sub_lst_nil (sub_nil _) | refine sub_lst rfl ?_ | (refine sub_lst_eq rfl ?_ ?_; · first | rfl | (simp; done) | (congr 1; omega)))
      · exact ⟨hp, Nat.le_refl _, hle, by rw [List.take_length]⟩
      · intro g w hJ
        clear hp
        obtain ⟨hp, hle2, hle3, hf2⟩ := hJ
        rcases cut_or hle2 (f := f) with hge | ⟨c, hc, hlt⟩
        all_goals (
 refine K_seq ?_
 refine K_seq ?_
 refine K_region ?_
 refine W_move rfl rfl ?_
 refine W_move rfl rfl ?_
 first
   | (refine W_gtr_t rfl rfl ?_ rfl ?_; (focus (omega)))
   | (refine W_gtr_f rfl rfl ?_ rfl ?_; (focus (omega)))
   | (refine W_gtr rfl rfl rfl ?_)
 refine W_move rfl rfl ?_
 first
   | refine W_guard_lit_t rfl ?_
   | refine W_guard_lit_f rfl ?_
   | refine W_guard_lit_u rfl ?_
   | refine W_guard_split_d rfl rfl rfl (fun hg4 => ?_) (fun hg4 => ?_)
   | refine W_guard_split_n rfl rfl rfl (fun hg4 => ?_) (fun hg4 => ?_)
   | refine W_guard_split_nb rfl rfl rfl (fun hg4 => ?_) (fun hg4 => ?_)
   | refine W_guard_split rfl rfl rfl (fun hg4 => ?_) (fun hg4 => ?_)
 all_goals try (exfalso; first | omega | (simp only [Bool.false_eq_true, reduceCtorEq] at hg4; done) | (refine absurd hg4 ?_; with_reducible assumption) | (refine absurd ?_ hg4; with_reducible assumption))
 all_goals (
  first
    | (iterate 6 refine W_guard_no rfl rfl rfl ?_)
    | (iterate 6 refine W_guard_un rfl rfl ?_)
    | (refine W_guard_yes rfl ?_
       refine W_move rfl rfl ?_
       refine W_guard_yes rfl ?_
       refine W_move rfl rfl ?_
       refine W_guard_yes rfl ?_
       first
         | (refine W_sub rfl rfl (wr_i64 ?_) rfl ?_; (focus (omega)))
         | (refine W_sub rfl rfl rfl rfl ?_)
       refine W_guard_yes rfl ?_
       refine W_index_s Tryz.underlying9 rfl rfl ?_ (by first | with_reducible assumption | assumption | exact rfl | exact idx_getD (by first | omega | (simp; omega))) rfl ?_
       (focus (omega))
       refine W_guard_yes rfl ?_
       first
         | (refine W_eql_t rfl rfl ?_ rfl ?_; (focus (omega)))
         | (refine W_eql_f rfl rfl ?_ rfl ?_; (focus (omega)))
         | (refine W_eql rfl rfl rfl ?_)
       refine W_guard_yes rfl ?_
       refine W_move rfl rfl ?_)
  first
    | refine W_guard_lit_t rfl ?_
    | refine W_guard_lit_f rfl ?_
    | refine W_guard_lit_u rfl ?_
    | refine W_guard_split_d rfl rfl rfl (fun hg5 => ?_) (fun hg5 => ?_)
    | refine W_guard_split_n rfl rfl rfl (fun hg5 => ?_) (fun hg5 => ?_)
    | refine W_guard_split_nb rfl rfl rfl (fun hg5 => ?_) (fun hg5 => ?_)
    | refine W_guard_split rfl rfl rfl (fun hg5 => ?_) (fun hg5 => ?_)
  all_goals try (exfalso; first | omega | (simp only [Bool.false_eq_true, reduceCtorEq] at hg5; done) | (refine absurd hg5 ?_; with_reducible assumption) | (refine absurd ?_ hg5; with_reducible assumption))
  all_goals (
   first
     | (iterate 5 refine W_guard_no rfl rfl rfl ?_)
     | (iterate 5 refine W_guard_un rfl rfl ?_)
     | (refine W_guard_yes rfl ?_
        refine W_move rfl rfl ?_
        refine W_guard_yes rfl ?_
        refine W_move rfl rfl ?_
        refine W_guard_yes rfl ?_
        first
          | (refine W_sub rfl rfl (wr_i64 ?_) rfl ?_; (focus (omega)))
          | (refine W_sub rfl rfl rfl rfl ?_)
        refine W_guard_yes rfl ?_
        refine W_index_s Tryz.underlying9 rfl rfl ?_ (by first | with_reducible assumption | assumption | exact rfl | exact idx_getD (by first | omega | (simp; omega))) rfl ?_
        (focus (omega))
        refine W_guard_yes rfl ?_
        first
          | (refine W_eql_t rfl rfl ?_ rfl ?_; (focus (omega)))
          | (refine W_eql_f rfl rfl ?_ rfl ?_; (focus (omega)))
          | (refine W_eql rfl rfl rfl ?_))
   first
     | (refine W_guard_no rfl rfl rfl ?_)
     | (refine W_guard_un rfl rfl ?_)
     | (refine W_guard_yes rfl ?_
        first
          | (refine W_pick_t rfl rfl rfl ?_)
          | (refine W_pick_f rfl rfl rfl ?_)
          | (refine W_pick_b rfl rfl rfl rfl ?_))
   first
     | (refine W_pick_t rfl rfl rfl ?_)
     | (refine W_pick_f rfl rfl rfl ?_)
     | (refine W_pick_b rfl rfl rfl rfl ?_)
   refine W_nil ?_
   refine N_then_k ?_
   first
     | refine K_cond_d rfl (fun hc6 => ?_) (fun hc6 => ?_)
     | refine K_cond_n rfl (fun hc6 => ?_) (fun hc6 => ?_)
     | refine K_cond_nb rfl (fun hc6 => ?_) (fun hc6 => ?_)
     | refine K_cond_t rfl (fun hc6 => ?_) (fun hc6 => ?_)
   · try (exfalso; first | omega | (simp only [Bool.false_eq_true, reduceCtorEq] at hc6; done) | (refine absurd hc6 ?_; with_reducible assumption) | (refine absurd ?_ hc6; with_reducible assumption))
     all_goals (
 refine K_skip ?_
 refine N_then_k ?_
 refine K_block ?_
 refine K_region ?_
 refine W_move rfl rfl ?_
 first
   | (refine W_sub rfl rfl (wr_i64 ?_) rfl ?_; (focus (omega)))
   | (refine W_sub rfl rfl rfl rfl ?_)
 refine W_assign rfl rfl ?_
 refine W_nil ?_
 refine N_block_normal ?_
 refine N_again (g - 1) (sub_end ?_ ?_) ?_ ?_
 · repeat' (first | exact sub_lst_nil (sub_nil _) | refine sub_lst rfl ?_ | (refine sub_lst_eq rfl ?_ ?_; · first | rfl | (simp; done) | (congr 1; omega)))
 · repeat' (first | exact sub_refl _ | exact sub_strip _ _ | refine sub_s_cons rfl ?_ | refine sub_s_lst rfl ?_ | refine sub_s_strip rfl ?_)
 · refine ⟨hp, by omega, by omega, ?_⟩
   rw [← hf2, cut_trim hc hlt (by omega)]
 · omega)
   · try (exfalso; first | omega | (simp only [Bool.false_eq_true, reduceCtorEq] at hc6; done) | (refine absurd hc6 ?_; with_reducible assumption) | (refine absurd ?_ hc6; with_reducible assumption))
     all_goals (
 refine K_exit ?_
 refine N_then_exit ?_
 refine N_then_exit ?_
 refine N_block_exit ?_
 refine N_mid (g) (sub_end ?_ ?_) ?_
 · repeat' (first | exact sub_lst_nil (sub_nil _) | refine sub_lst rfl ?_ | (refine sub_lst_eq rfl ?_ ?_; · first | rfl | (simp; done) | (congr 1; omega)))
 · repeat' (first | exact sub_refl _ | exact sub_strip _ _ | refine sub_s_cons rfl ?_ | refine sub_s_lst rfl ?_ | refine sub_s_strip rfl ?_)
 · refine ⟨hp, hle2, hle3, hf2, ?_⟩
   first | exact .inl (by omega) | exact .inr ⟨c, hc, by omega⟩))))
    · intro g w hJ
      clear hp
      obtain ⟨hp, hle2, hle3, hf2, hf3⟩ := hJ
      refine K_seq ?_
      refine K_region ?_
      refine W_move rfl rfl ?_
      refine W_move rfl rfl ?_
      refine W_move rfl rfl ?_
      have hsl := slice_trim hf1 hle hle3 hle2 hf2 hf3
      refine W_slice_slh Tryz.underlying9 rfl rfl rfl ?_ ?_ ?_ rfl ?_
      (focus (first | omega | (simp; omega) | (simp only [List.length_drop, List.length_take, List.length_append]; omega)))
      (focus (first | omega | (simp; omega) | (simp only [List.length_drop, List.length_take, List.length_append]; omega)))
      (focus (first | omega | (simp; omega) | (simp only [List.length_drop, List.length_take, List.length_append]; omega)))
      refine W_assign rfl rfl ?_
      refine W_nil ?_
      refine N_then_k ?_
      refine K_ret ?_
      refine N_done1 (.inr rfl) rfl rfl ?_
      refine ⟨_, rfl, congrArg strV hsl, hp.nil⟩

end Go.Proofs.YticinfoljhlnbaaGreatDoor
