/-
  Package percent and its reference, walked.
-/
import Derived.Test.YtbccjajnjndlbaaDoorPctA
namespace Go.Proofs.YtbccjajnjndlbaaDoor
open Go.Sx Go.RowKit
set_option linter.unusedVariables false
set_option linter.unusedSimpArgs false
set_option maxRecDepth 100000

theorem cut_hex {m : Nat} (h : m < 16) : (([48, 49, 50, 51, 52, 53, 54, 55, 56, 57, 65, 66, 67, 68, 69, 70] : List UInt8).drop m).take 1 = [digU m] :=
  (show ∀ m : Fin 16, (([48, 49, 50, 51, 52, 53, 54, 55, 56, 57, 65, 66, 67, 68, 69, 70] : List UInt8).drop m.val).take 1 = [digU m.val] by decide) ⟨m, h⟩
theorem cnt37_wide {s : List UInt8} {k : Nat} : ∀ {wd : Nat}, (∀ j, k ≤ j → j < k + wd → ∀ x, s[j]? = some x → 128 ≤ x.toNat) → k + wd ≤ s.length → cnt37 (s.take (k + wd)) = cnt37 (s.take k)
  | 0, _, _ => rfl
  | wd + 1, h, hl => by
    have ih := cnt37_wide (s := s) (k := k) (wd := wd) (fun j h1 h2 => h j h1 (by omega)) (by omega)
    have hc : s[k + wd]? = some s[k + wd] := List.getElem?_eq_getElem (by omega)
    have h1 := h (k + wd) (by omega) (by omega) _ hc
    rw [← Nat.add_assoc, cnt37_take hc, ih, if_neg (fun e => by rw [e] at h1; exact absurd h1 (by decide)), Nat.add_zero]
theorem cut_one {s : List UInt8} {k : Nat} {c : UInt8} (hc : s[k]? = some c) : (s.drop (k : Int).toNat).take (((k : Int) + 1).toNat - (k : Int).toNat) = [c] := by
  have hk := (List.getElem?_eq_some_iff.1 hc).1
  rw [show ((k : Int) + 1).toNat - (k : Int).toNat = 1 by omega, Int.toNat_natCast, List.drop_eq_getElem_cons hk, (List.getElem?_eq_some_iff.1 hc).2]; rfl
theorem cut_dig {x : Int} (h : 0 ≤ x ∧ x < 16) : (([48, 49, 50, 51, 52, 53, 54, 55, 56, 57, 65, 66, 67, 68, 69, 70] : List UInt8).drop x.toNat).take ((x + 1).toNat - x.toNat) = [digU x.toNat] := by
  rw [show (x + 1).toNat - x.toNat = 1 by omega]; exact cut_hex (by omega)

theorem As_nil (v : Value) : PureF Tryd.prog 23 [.nilIface, v] (.bool false) := by
  refine PureF.intro go23 Tryd.func23 rfl rfl fun w0 hp => ?_
  refine K_seq ?_
  refine K_region ?_
  refine W_assign rfl rfl ?_
  refine W_nil ?_
  refine N_then_k ?_
  refine K_seq ?_
  refine K_seq ?_
  refine K_region ?_
  refine W_move rfl rfl ?_
  first
    | (refine W_val rfl (inb_of rfl) (R_bin (a := .nilIface) (v := .bool true) rfl rfl (by kernel_rfl)) ?_)
    | (refine W_val rfl (inb_of rfl) (R_bin (v := .bool false) rfl rfl (by kernel_rfl)) ?_)
  refine W_nil ?_
  refine N_then_k ?_
  first
    | refine K_cond_d rfl (fun hc1 => ?_) (fun hc1 => ?_)
    | refine K_cond_n rfl (fun hc1 => ?_) (fun hc1 => ?_)
    | refine K_cond_nb rfl (fun hc1 => ?_) (fun hc1 => ?_)
    | refine K_cond_t rfl (fun hc1 => ?_) (fun hc1 => ?_)
  · try (exfalso; first | omega | (simp only [Bool.false_eq_true, reduceCtorEq] at hc1; done) | (refine absurd hc1 ?_; with_reducible assumption) | (refine absurd ?_ hc1; with_reducible assumption))
    all_goals (
     refine K_seq ?_
     refine K_region ?_
     refine W_assign rfl rfl ?_
     refine W_nil ?_
     refine N_then_k ?_
     refine K_ret ?_
     refine N_then_ret ?_
     refine N_done1 (.inr rfl) rfl rfl ?_
     exact ⟨_, rfl, rfl, hp.nil⟩)
  · try (exfalso; first | omega | (simp only [Bool.false_eq_true, reduceCtorEq] at hc1; done) | (refine absurd hc1 ?_; with_reducible assumption) | (refine absurd ?_ hc1; with_reducible assumption))
    all_goals (
     refine K_skip ?_
     refine N_then_k ?_
     refine K_seq ?_
     refine K_seq ?_
     fail "not to be reached")

theorem right_ok (w0 : World) (hg : ErrT w0) (s : List UInt8) (hl : s.length ≤ 1000000) {a : List UInt8} (hD : decT s = (a, -1)) : PureAt Tryd.prog 10 [.string ⟨s.toArray⟩] (.bool true) w0 := by
  refine PureAt.intro go10 Tryd.func10 rfl rfl fun hp => ?_
  refine (fun (hk : ∀ w, Hp w0 [] [] w → K _ _ _ _ _ w) => hk w0 hp) fun w hp => ?_
  refine K_seq ?_
  refine K_region ?_
  refine W_assign rfl rfl ?_
  refine W_nil ?_
  refine N_then_k ?_
  refine K_seq ?_
  refine K_region ?_
  refine W_move rfl rfl ?_
  refine W_pcall hp rfl ((decode_spec s hl).eq (decV_ok hD)) rfl ?_
  clear hp; intro w hp
  refine W_move rfl rfl ?_
  refine W_extract rfl rfl rfl ?_
  refine W_extract rfl rfl rfl ?_
  refine W_assign rfl rfl ?_
  refine W_assign rfl rfl ?_
  refine W_nil ?_
  refine N_then_k ?_
  refine K_seq ?_
  refine K_region ?_
  refine W_alloc hp zv48 rfl rfl ?_
  clear hp; intro b5 w hp
  refine W_nil ?_
  refine N_then_k ?_
  refine K_seq ?_
  refine K_region ?_
  refine W_move rfl rfl ?_
  refine W_mkiface Tryd.underlying50 rfl rfl rfl ?_
  refine W_pcall hp rfl (As_nil _) rfl ?_
  clear hp; intro w hp
  first
    | (refine W_not_t rfl rfl ?_)
    | (refine W_not_f rfl rfl ?_)
    | (refine W_not rfl rfl ?_)
  refine W_assign rfl rfl ?_
  refine W_nil ?_
  refine N_then_k ?_
  refine K_ret ?_
  refine N_done1 (.inr rfl) rfl rfl ?_
  exact ⟨_, rfl, rfl, hp.nil⟩

theorem right_bad (w0 : World) (hg : ErrT w0) (s : List UInt8) (hl : s.length ≤ 1000000) {n : Nat} (hD : decT s = ([], (n : Int))) : PureAt Tryd.prog 10 [.string ⟨s.toArray⟩] (.bool false) w0 := by
  refine PureAt.intro go10 Tryd.func10 rfl rfl fun hp => ?_
  refine (fun (hk : ∀ w, Hp w0 [] [] w → K _ _ _ _ _ w) => hk w0 hp) fun w hp => ?_
  refine K_seq ?_
  refine K_region ?_
  refine W_assign rfl rfl ?_
  refine W_nil ?_
  refine N_then_k ?_
  refine K_seq ?_
  refine K_region ?_
  refine W_move rfl rfl ?_
  refine W_pcall hp rfl ((decode_spec s hl).eq (decV_bad hD)) rfl ?_
  clear hp; intro w hp
  refine W_move rfl rfl ?_
  refine W_extract rfl rfl rfl ?_
  refine W_extract rfl rfl rfl ?_
  refine W_assign rfl rfl ?_
  refine W_assign rfl rfl ?_
  refine W_nil ?_
  refine N_then_k ?_
  refine K_seq ?_
  refine K_region ?_
  refine W_alloc hp zv48 rfl rfl ?_
  clear hp; intro b5 w hp
  refine W_nil ?_
  refine N_then_k ?_
  refine K_seq ?_
  refine K_region ?_
  refine W_move rfl rfl ?_
  refine W_mkiface Tryd.underlying50 rfl rfl rfl ?_
  have hlt0 := ErrT.lt hg
  have hfr := hp.fresh (b5, _) List.mem_cons_self
  simp only at hlt0 hfr
  refine W_call rfl rfl rfl (CallV.static go23 (As_at w 400 n b5 (by omega) (hp.cell_old0 hg) (hp.base (fun p hp => by simp at hp; simp [hp]) (by simp)))) (fun v w2 hr => ?_)
  obtain ⟨rfl, hr⟩ := hr
  replace hp := Hp.call_setF (A := []) (B := []) hp hr
  simp only [List.nil_append] at hp
  clear hr; revert hp; generalize w2 = w; intro hp
  first
    | (refine W_not_t rfl rfl ?_)
    | (refine W_not_f rfl rfl ?_)
    | (refine W_not rfl rfl ?_)
  refine W_assign rfl rfl ?_
  refine W_nil ?_
  refine N_then_k ?_
  refine K_ret ?_
  refine N_done1 (.inr rfl) rfl rfl ?_
  exact ⟨_, rfl, rfl, hp.nil⟩

/-- How many triples a text has. -/
def triN (s : List UInt8) : Nat := if (decT s).2 < 0 then cnt37 s else 0
theorem triN_ok {s a : List UInt8} (h : decT s = (a, -1)) : triN s = cnt37 s := by unfold triN; rw [h]; rfl
theorem triN_bad {s : List UInt8} {n : Nat} (h : decT s = ([], (n : Int))) : triN s = 0 := by unfold triN; rw [h]; exact if_neg (by simp)

theorem triples_spec (w0 : World) (hg : ErrT w0) (s : List UInt8) (hl : s.length ≤ 1000000) : PureAt Tryd.prog 11 [.string ⟨s.toArray⟩] (.int .i64 (triN s : Int)) w0 := by
  refine PureAt.intro go11 Tryd.func11 rfl rfl fun hp => ?_
  refine (fun (hk : ∀ w, Hp w0 [] [] w → K _ _ _ _ _ w) => hk w0 hp) fun w hp => ?_
  refine K_seq ?_
  refine K_region ?_
  refine W_assign rfl rfl ?_
  refine W_nil ?_
  refine N_then_k ?_
  refine K_seq ?_
  refine K_seq ?_
  refine K_region ?_
  rcases decT_two s with ⟨a, hD⟩ | ⟨n, hD⟩
  all_goals (
   refine W_move rfl rfl ?_
   first
     | (refine W_acall hp rfl (right_ok w (hg.keep hp) s hl hD) rfl ?_)
     | (refine W_acall hp rfl (right_bad w (hg.keep hp) s hl hD) rfl ?_)
   clear hp; intro w hp
   first
     | (refine W_not_t rfl rfl ?_)
     | (refine W_not_f rfl rfl ?_)
     | (refine W_not rfl rfl ?_)
   refine W_nil ?_
   refine N_then_k ?_
   first
     | refine K_cond_d rfl (fun hc1 => ?_) (fun hc1 => ?_)
     | refine K_cond_n rfl (fun hc1 => ?_) (fun hc1 => ?_)
     | refine K_cond_nb rfl (fun hc1 => ?_) (fun hc1 => ?_)
     | refine K_cond_t rfl (fun hc1 => ?_) (fun hc1 => ?_)
   · try (exfalso; first | omega | (simp only [Bool.false_eq_true, reduceCtorEq] at hc1; done) | (refine absurd hc1 ?_; with_reducible assumption) | (refine absurd ?_ hc1; with_reducible assumption))
     all_goals (
      refine K_seq ?_
      refine K_region ?_
      refine W_assign rfl rfl ?_
      refine W_nil ?_
      refine N_then_k ?_
      refine K_ret ?_
      refine N_then_ret ?_
      refine N_done1 (.inr rfl) rfl rfl ?_
      refine ⟨_, rfl, congrArg (Value.int .i64) ?_, hp.nil⟩
      first
        | (rw [triN_bad hD]; rfl)
        | (rw [triN_ok hD, List.take_of_length_le hge]))
   · try (exfalso; first | omega | (simp only [Bool.false_eq_true, reduceCtorEq] at hc1; done) | (refine absurd hc1 ?_; with_reducible assumption) | (refine absurd ?_ hc1; with_reducible assumption))
     all_goals (
      refine K_skip ?_
      refine N_then_k ?_
      refine K_seq ?_
      refine K_region ?_
      refine W_assign rfl rfl ?_
      refine W_nil ?_
      refine N_then_k ?_
      refine K_seq ?_
      refine K_seq ?_
      refine K_region ?_
      refine W_move rfl rfl ?_
      refine W_range hp Tryd.underlying9 rfl rfl ?_
      clear hp; intro b10 w hp
      refine W_nil ?_
      refine N_then_k ?_
      refine K_block ?_
      refine K_loop (σ := Nat) [3, 5, 11, 12, 13, 14, 15, 16, 17]
          (fun k => [(3, .int .i64 (cnt37 (s.take k) : Int))])
          (fun k w => Hp w0 [] [(b10, .stringIter ⟨s.toArray⟩ k)] w ∧ k ≤ s.length)
          (fun k => s.length - k) (0) ?_ ?_ ?_
      · repeat' (first | exact sub_lst_nil (sub_nil _) | refine sub_lst rfl ?_ | (refine sub_lst_eq rfl ?_ ?_; · first | rfl | (simp; done) | (congr 1; omega)))
      · exact ⟨hp, Nat.zero_le _⟩
      · intro k w hJ
        clear hp
        obtain ⟨hp, hle⟩ := hJ
        refine K_seq ?_
        refine K_region ?_
        rcases next_cases s k with hge | ⟨c, hc, hc2, hlt, hdec⟩ | ⟨r, wd, hlt, hdec, hr1, hr2, hw1, hw2, hw3⟩
        all_goals (
         first
           | (refine W_next_end (A := []) hp rfl ‹_ ≤ _› rfl ?_)
           | (refine W_next_some (A := []) hp rfl (by assumption) (by assumption) rfl ?_
              clear hp; intro w hp
              simp only [List.nil_append] at hp)
         refine W_extract rfl rfl rfl ?_
         refine W_nil ?_
         refine N_then_k ?_
         refine K_seq ?_
         first
           | refine K_cond_d rfl (fun hc2 => ?_) (fun hc2 => ?_)
           | refine K_cond_n rfl (fun hc2 => ?_) (fun hc2 => ?_)
           | refine K_cond_nb rfl (fun hc2 => ?_) (fun hc2 => ?_)
           | refine K_cond_t rfl (fun hc2 => ?_) (fun hc2 => ?_)
         · try (exfalso; first | omega | (simp only [Bool.false_eq_true, reduceCtorEq] at hc2; done) | (refine absurd hc2 ?_; with_reducible assumption) | (refine absurd ?_ hc2; with_reducible assumption))
           all_goals (
            refine K_skip ?_
            refine N_then_k ?_
            refine K_block ?_
            refine K_seq ?_
            refine K_region ?_
            have hcl := cnt37_le (s.take k)
            have htl : (s.take k).length ≤ s.length := by simp; omega
            refine W_extract rfl rfl rfl ?_
            refine W_assign rfl rfl ?_
            refine W_nil ?_
            refine N_then_k ?_
            refine K_seq ?_
            refine K_region ?_
            refine W_move rfl rfl ?_
            first
              | (refine W_eql_t rfl rfl ?_ rfl ?_; (focus (omega)))
              | (refine W_eql_f rfl rfl ?_ rfl ?_; (focus (omega)))
              | (refine W_eql rfl rfl rfl ?_)
            refine W_nil ?_
            refine N_then_k ?_
            first
              | refine K_cond_d rfl (fun hc3 => ?_) (fun hc3 => ?_)
              | refine K_cond_n rfl (fun hc3 => ?_) (fun hc3 => ?_)
              | refine K_cond_nb rfl (fun hc3 => ?_) (fun hc3 => ?_)
              | refine K_cond_t rfl (fun hc3 => ?_) (fun hc3 => ?_)
            · try (exfalso; first | omega | (simp only [Bool.false_eq_true, reduceCtorEq] at hc3; done) | (refine absurd hc3 ?_; with_reducible assumption) | (refine absurd ?_ hc3; with_reducible assumption))
              all_goals (
               refine K_region ?_
               refine W_move rfl rfl ?_
               first
                 | (refine W_add rfl rfl (wr_i64 ?_) rfl ?_; (focus (omega)))
                 | (refine W_add rfl rfl rfl rfl ?_)
               refine W_assign rfl rfl ?_
               refine W_nil ?_
               refine N_block_normal ?_
               first
                 | (refine N_again (k + 1) (sub_end ?_ ?_) ⟨hp, hlt⟩ ?_
                    · repeat' (first | exact sub_lst_nil (sub_nil _) | refine sub_lst rfl ?_ | (refine sub_lst_eq rfl ?_ ?_; · (refine congrArg (Value.int .i64) ?_; rw [cnt37_take hc]; first | (rw [if_pos (eq37 (by omega))]; rfl) | (rw [if_neg (ne37 (by omega))]; rfl))))
                    · repeat' (first | exact sub_refl _ | exact sub_strip _ _ | refine sub_s_cons rfl ?_ | refine sub_s_lst rfl ?_ | refine sub_s_strip rfl ?_)
                    · omega)
                 | (refine N_again (k + wd) (sub_end ?_ ?_) ⟨hp, hw2⟩ ?_
                    · repeat' (first | exact sub_lst_nil (sub_nil _) | refine sub_lst rfl ?_ | (refine sub_lst_eq rfl ?_ ?_; · (refine congrArg (Value.int .i64) ?_; rw [cnt37_wide hw3 hw2])))
                    · repeat' (first | exact sub_refl _ | exact sub_strip _ _ | refine sub_s_cons rfl ?_ | refine sub_s_lst rfl ?_ | refine sub_s_strip rfl ?_)
                    · omega))
            · try (exfalso; first | omega | (simp only [Bool.false_eq_true, reduceCtorEq] at hc3; done) | (refine absurd hc3 ?_; with_reducible assumption) | (refine absurd ?_ hc3; with_reducible assumption))
              all_goals (
               refine K_skip ?_
               refine N_block_normal ?_
               first
                 | (refine N_again (k + 1) (sub_end ?_ ?_) ⟨hp, hlt⟩ ?_
                    · repeat' (first | exact sub_lst_nil (sub_nil _) | refine sub_lst rfl ?_ | (refine sub_lst_eq rfl ?_ ?_; · (refine congrArg (Value.int .i64) ?_; rw [cnt37_take hc]; first | (rw [if_pos (eq37 (by omega))]; rfl) | (rw [if_neg (ne37 (by omega))]; rfl))))
                    · repeat' (first | exact sub_refl _ | exact sub_strip _ _ | refine sub_s_cons rfl ?_ | refine sub_s_lst rfl ?_ | refine sub_s_strip rfl ?_)
                    · omega)
                 | (refine N_again (k + wd) (sub_end ?_ ?_) ⟨hp, hw2⟩ ?_
                    · repeat' (first | exact sub_lst_nil (sub_nil _) | refine sub_lst rfl ?_ | (refine sub_lst_eq rfl ?_ ?_; · (refine congrArg (Value.int .i64) ?_; rw [cnt37_wide hw3 hw2])))
                    · repeat' (first | exact sub_refl _ | exact sub_strip _ _ | refine sub_s_cons rfl ?_ | refine sub_s_lst rfl ?_ | refine sub_s_strip rfl ?_)
                    · omega)))
         · try (exfalso; first | omega | (simp only [Bool.false_eq_true, reduceCtorEq] at hc2; done) | (refine absurd hc2 ?_; with_reducible assumption) | (refine absurd ?_ hc2; with_reducible assumption))
           all_goals (
            refine K_exit ?_
            refine N_then_exit ?_
            refine N_then_exit ?_
            refine N_block_exit ?_
            refine N_then_k ?_
            refine K_seq ?_
            refine K_region ?_
            refine W_move rfl rfl ?_
            refine W_assign rfl rfl ?_
            refine W_nil ?_
            refine N_then_k ?_
            refine K_ret ?_
            refine N_done1 (.inr rfl) rfl rfl ?_
            refine ⟨_, rfl, congrArg (Value.int .i64) ?_, hp.nil⟩
            first
              | (rw [triN_bad hD]; rfl)
              | (rw [triN_ok hD, List.take_of_length_le hge])))))

end Go.Proofs.YtbccjajnjndlbaaDoor
