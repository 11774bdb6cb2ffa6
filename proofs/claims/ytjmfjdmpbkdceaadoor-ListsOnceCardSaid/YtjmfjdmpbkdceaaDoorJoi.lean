/-
  strings.Join at this program.
-/
import Derived.Test.YtjmfjdmpbkdceaaDoorBld
namespace Go.Proofs.YtjmfjdmpbkdceaaDoor
open Go.Sx Go.RowKit
set_option linter.unusedVariables false
set_option linter.unusedSimpArgs false
set_option maxRecDepth 100000

/-! ### strings.Join -/
def joinB (sep : List UInt8) : List (List UInt8) → List UInt8
  | [] => []
  | x :: r => x ++ r.flatMap fun y => sep ++ y
def lensB (L : List (List UInt8)) : Nat := (L.map List.length).sum
theorem flat_length (sep : List UInt8) (r : List (List UInt8)) : (r.flatMap fun y => sep ++ y).length = sep.length * r.length + lensB r := by
  induction r with
  | nil => simp [lensB]
  | cons y r ih =>
    have e : lensB (y :: r) = y.length + lensB r := by simp [lensB]
    rw [List.flatMap_cons, List.length_append, List.length_append, ih, List.length_cons, Nat.mul_succ, e]; omega
theorem joinB_length (sep : List UInt8) {L : List (List UInt8)} (h : 0 < L.length) : (joinB sep L).length = sep.length * (L.length - 1) + lensB L := by
  cases L with
  | nil => simp at h
  | cons x r =>
    have e : lensB (x :: r) = x.length + lensB r := by simp [lensB]
    show (x ++ _).length = _
    rw [List.length_append, flat_length, e, List.length_cons, Nat.add_sub_cancel]; omega
theorem lensB_take {L : List (List UInt8)} {k : Nat} {x : List UInt8} (h : L[k]? = some x) : lensB (L.take (k + 1)) = lensB (L.take k) + x.length := by
  simp [lensB, List.take_add_one, h]
theorem lensB_le (L : List (List UInt8)) (k : Nat) : lensB (L.take k) ≤ lensB L := by
  have : lensB L = lensB (L.take k) + lensB (L.drop k) := by
    conv => lhs; rw [← List.take_append_drop k L]
    simp only [lensB, List.map_append, List.sum_append]
  omega
theorem joinB_one {sep x : List UInt8} {L : List (List UInt8)} (h : L[0]? = some x) : joinB sep (L.take 1) = x := by
  cases L with
  | nil => simp at h
  | cons y r => simp at h; subst h; simp [joinB]
theorem joinB_more {sep y : List UInt8} {L : List (List UInt8)} {j : Nat} (h : L[j + 1]? = some y) : joinB sep (L.take (j + 1 + 1)) = joinB sep (L.take (j + 1)) ++ sep ++ y := by
  cases L with
  | nil => simp at h
  | cons x r =>
    rw [List.getElem?_cons_succ] at h
    rw [List.take_succ_cons, List.take_succ_cons, List.take_add_one, h]
    simp [joinB]
theorem joinB_le (sep : List UInt8) (L : List (List UInt8)) (k : Nat) : (joinB sep (L.take k)).length ≤ (joinB sep L).length := by
  cases L with
  | nil => simp
  | cons x r =>
    cases k with
    | zero => simp [joinB]
    | succ k =>
      rw [List.take_succ_cons]
      show (x ++ _).length ≤ (x ++ _).length
      rw [List.length_append, List.length_append, flat_length, flat_length]
      have := lensB_le r k
      have h2 : sep.length * (r.take k).length ≤ sep.length * r.length := Nat.mul_le_mul_left _ (by simp; omega)
      omega
theorem join_quo {s n : Nat} (h2 : 2 ≤ n) (hn : n ≤ 100000) (hs : s ≤ 100000000) : ∃ q : Nat, IntKind.i64.wrap (Int.tdiv 9223372036854775807 ((n : Int) - 1)) = (q : Int) ∧ s < q := by
  have e : (n : Int) - 1 = ((n - 1 : Nat) : Int) := by omega
  have e2 : Int.tdiv 9223372036854775807 ((n - 1 : Nat) : Int) = ((9223372036854775807 / (n - 1) : Nat) : Int) := rfl
  have hlt : s < 9223372036854775807 / (n - 1) := by
    have : s + 1 ≤ 9223372036854775807 / (n - 1) := by
      rw [Nat.le_div_iff_mul_le (by omega)]
      have := Nat.mul_le_mul (show s + 1 ≤ 100000001 by omega) (show n - 1 ≤ 100000 by omega)
      omega
    omega
  have hle : 9223372036854775807 / (n - 1) ≤ 9223372036854775807 := Nat.div_le_self _ _
  exact ⟨_, by rw [e, e2]; exact wr_i64 (by omega), hlt⟩
theorem join_mul {s n M : Nat} (h2 : 2 ≤ n) (hM : s * (n - 1) = M) (hl : M ≤ 100000000) : IntKind.i64.wrap ((s : Int) * ((n : Int) - 1)) = (M : Int) := by
  have e : (n : Int) - 1 = ((n - 1 : Nat) : Int) := by omega
  rw [e, ← Int.natCast_mul, hM]
  exact wr_i64 (by omega)

set_option maxHeartbeats 1000000 in
theorem joins_spec (w0 : World) (L : List (List UInt8)) (Al : Option Addr) (cl : Nat) (hrl : Rd w0 (.slice Al L.length cl) L.length (L.map strV)) (hcl : L.length ≤ cl) (sep : List UInt8) (hsp : 0 < sep.length) (hsl : sep.length ≤ 100000000) (hn : L.length ≤ 100000) (hj : (joinB sep L).length ≤ 100000000) : PureAt Tryd.prog 27 [.slice Al L.length cl, .string ⟨sep.toArray⟩] (.string ⟨(joinB sep L).toArray⟩) w0 := by
  rcases (by omega : L.length = 0 ∨ L.length = 1 ∨ 2 ≤ L.length) with h2 | h2 | h2
  all_goals try (have hjl := joinB_length sep (L := L) (by omega); generalize hM : sep.length * (L.length - 1) = M at hjl)
  all_goals try (obtain ⟨q, hquo, hsq⟩ := join_quo h2 hn hsl; have hmul := join_mul h2 hM (by omega))
  all_goals (
   refine PureAt.intro go27 Tryd.func27 rfl rfl fun hp => ?_
   refine (fun (hk : ∀ w, Hp w0 [] [] w → K _ _ _ _ _ w) => hk w0 hp) fun w hp => ?_
   refine K_seq ?_
   refine K_region ?_
   refine W_assign rfl rfl ?_
   refine W_nil ?_
   refine N_then_k ?_
   refine K_seq ?_
   refine K_seq ?_
   refine K_region ?_
   refine W_move rfl rfl ?_
   refine W_len_sl Tryd.underlying22 rfl rfl ?_
   refine W_nil ?_
   refine N_then_k ?_
   refine K_block ?_
   refine K_seq ?_
   refine K_region ?_
   first
     | (refine W_eql_t rfl rfl ?_ rfl ?_; (focus (omega)))
     | (refine W_eql_f rfl rfl ?_ rfl ?_; (focus (omega)))
     | (refine W_eql rfl rfl rfl ?_)
   refine W_assign rfl rfl ?_
   refine W_nil ?_
   refine N_then_k ?_
   first
     | refine K_cond_d rfl (fun hc1 => ?_) (fun hc1 => ?_)
     | refine K_cond_n rfl (fun hc1 => ?_) (fun hc1 => ?_)
     | refine K_cond_nb rfl (fun hc1 => ?_) (fun hc1 => ?_)
     | refine K_cond_t rfl (fun hc1 => ?_) (fun hc1 => ?_)
   · try (exfalso; first | omega | (simp only [Bool.false_eq_true, reduceCtorEq] at hc1; done) | (refine absurd hc1 ?_; with_reducible assumption) | (refine absurd ?_ hc1; with_reducible assumption))
     all_goals (
      refine K_seq ?_
      refine K_region ?_
      refine W_assign rfl rfl ?_
      refine W_nil ?_
      refine N_then_k ?_
      refine K_ret ?_
      refine N_block_ret ?_
      refine N_then_ret ?_
      refine N_done1 (.inr rfl) rfl rfl ?_
      refine ⟨_, rfl, ?_, hp.nil⟩
      first
        | (rw [List.eq_nil_of_length_eq_zero h2]; rfl)
        | (have := joinB_one (sep := sep) hx; rw [List.take_of_length_le (by omega)] at this; rw [this])
        | (rw [List.take_of_length_le (by omega)]))
   · try (exfalso; first | omega | (simp only [Bool.false_eq_true, reduceCtorEq] at hc1; done) | (refine absurd hc1 ?_; with_reducible assumption) | (refine absurd ?_ hc1; with_reducible assumption))
     all_goals (
      refine K_seq ?_
      refine K_region ?_
      first
        | (refine W_eql_t rfl rfl ?_ rfl ?_; (focus (omega)))
        | (refine W_eql_f rfl rfl ?_ rfl ?_; (focus (omega)))
        | (refine W_eql rfl rfl rfl ?_)
      refine W_assign rfl rfl ?_
      refine W_nil ?_
      refine N_then_k ?_
      first
        | refine K_cond_d rfl (fun hc2 => ?_) (fun hc2 => ?_)
        | refine K_cond_n rfl (fun hc2 => ?_) (fun hc2 => ?_)
        | refine K_cond_nb rfl (fun hc2 => ?_) (fun hc2 => ?_)
        | refine K_cond_t rfl (fun hc2 => ?_) (fun hc2 => ?_)
      · try (exfalso; first | omega | (simp only [Bool.false_eq_true, reduceCtorEq] at hc2; done) | (refine absurd hc2 ?_; with_reducible assumption) | (refine absurd ?_ hc2; with_reducible assumption))
        all_goals (
         refine K_seq ?_
         refine K_region ?_
         refine W_move rfl rfl ?_
         obtain ⟨x0, hx⟩ : ∃ x, L[0]? = some x := ⟨_, List.getElem?_eq_getElem (by omega)⟩
         have hxs := strV_at hx
         obtain ⟨bb, oo, rfl⟩ := hrl.some (by intro e; rw [e] at hxs; simp at hxs)
         have hcx := hrl.cell hxs
         refine W_indexAddr_sl Tryd.underlying22 sz9 rfl rfl ?_ ?_ rfl ?_
         (focus (omega))
         (focus (first | omega | (simp; done) | (simp; omega)))
         refine W_load_s Tryd.underlying9 rfl rfl (by exact hp.cell_old0 (by simpa using hcx)) rfl ?_
         refine W_assign rfl rfl ?_
         refine W_nil ?_
         refine N_then_k ?_
         refine K_ret ?_
         refine N_block_ret ?_
         refine N_then_ret ?_
         refine N_done1 (.inr rfl) rfl rfl ?_
         refine ⟨_, rfl, ?_, hp.nil⟩
         first
           | (rw [List.eq_nil_of_length_eq_zero h2]; rfl)
           | (have := joinB_one (sep := sep) hx; rw [List.take_of_length_le (by omega)] at this; rw [this])
           | (rw [List.take_of_length_le (by omega)]))
      · try (exfalso; first | omega | (simp only [Bool.false_eq_true, reduceCtorEq] at hc2; done) | (refine absurd hc2 ?_; with_reducible assumption) | (refine absurd ?_ hc2; with_reducible assumption))
        all_goals (
         refine K_skip ?_
         refine N_block_normal ?_
         refine N_then_k ?_
         refine K_seq ?_
         refine K_region ?_
         refine W_assign rfl rfl ?_
         refine W_nil ?_
         refine N_then_k ?_
         refine K_seq ?_
         refine K_seq ?_
         refine K_region ?_
         refine W_move rfl rfl ?_
         refine W_len_s Tryd.underlying9 rfl rfl ?_
         first
           | (refine W_gtr_t rfl rfl ?_ rfl ?_; (focus (omega)))
           | (refine W_gtr_f rfl rfl ?_ rfl ?_; (focus (omega)))
           | (refine W_gtr rfl rfl rfl ?_)
         refine W_nil ?_
         refine N_then_k ?_
         first
           | refine K_cond_d rfl (fun hc3 => ?_) (fun hc3 => ?_)
           | refine K_cond_n rfl (fun hc3 => ?_) (fun hc3 => ?_)
           | refine K_cond_nb rfl (fun hc3 => ?_) (fun hc3 => ?_)
           | refine K_cond_t rfl (fun hc3 => ?_) (fun hc3 => ?_)
         · try (exfalso; first | omega | (simp only [Bool.false_eq_true, reduceCtorEq] at hc3; done) | (refine absurd hc3 ?_; with_reducible assumption) | (refine absurd ?_ hc3; with_reducible assumption))
           all_goals (
            refine K_seq ?_
            refine K_seq ?_
            refine K_region ?_
            refine W_move rfl rfl ?_
            refine W_len_s Tryd.underlying9 rfl rfl ?_
            refine W_move rfl rfl ?_
            refine W_len_sl Tryd.underlying22 rfl rfl ?_
            first
              | (refine W_sub rfl rfl (wr_i64 ?_) rfl ?_; (focus (omega)))
              | (refine W_sub rfl rfl rfl rfl ?_)
            refine W_quo rfl rfl (by omega) hquo rfl ?_
            first
              | (refine W_geq_t rfl rfl ?_ rfl ?_; (focus (omega)))
              | (refine W_geq_f rfl rfl ?_ rfl ?_; (focus (omega)))
              | (refine W_geq rfl rfl rfl ?_)
            refine W_nil ?_
            refine N_then_k ?_
            first
              | refine K_cond_d rfl (fun hc4 => ?_) (fun hc4 => ?_)
              | refine K_cond_n rfl (fun hc4 => ?_) (fun hc4 => ?_)
              | refine K_cond_nb rfl (fun hc4 => ?_) (fun hc4 => ?_)
              | refine K_cond_t rfl (fun hc4 => ?_) (fun hc4 => ?_)
            · try (exfalso; first | omega | (simp only [Bool.false_eq_true, reduceCtorEq] at hc4; done) | (refine absurd hc4 ?_; with_reducible assumption) | (refine absurd ?_ hc4; with_reducible assumption))
              all_goals (
               refine K_region ?_
               refine W_mkiface Tryd.underlying9 rfl rfl rfl ?_
               fail "a panic"
               refine W_nil ?_
               refine N_then_k ?_
               refine K_region ?_
               refine W_move rfl rfl ?_
               refine W_move rfl rfl ?_
               refine W_len_s Tryd.underlying9 rfl rfl ?_
               refine W_move rfl rfl ?_
               refine W_len_sl Tryd.underlying22 rfl rfl ?_
               first
                 | (refine W_sub rfl rfl (wr_i64 ?_) rfl ?_; (focus (omega)))
                 | (refine W_sub rfl rfl rfl rfl ?_)
               refine W_mul rfl rfl hmul rfl ?_
               first
                 | (refine W_add rfl rfl (wr_i64 ?_) rfl ?_; (focus (omega)))
                 | (refine W_add rfl rfl rfl rfl ?_)
               refine W_assign rfl rfl ?_
               refine W_nil ?_
               refine N_then_k ?_
               refine K_seq ?_
               refine K_seq ?_
               refine K_region ?_
               refine W_move rfl rfl ?_
               refine W_len_sl Tryd.underlying22 rfl rfl ?_
               refine W_move rfl rfl ?_
               refine W_nil ?_
               refine N_then_k ?_
               refine K_block ?_
               refine K_loop (σ := Nat) [5, 7, 41, 42, 43, 44, 45, 46, 47, 48, 49, 50, 51, 52, 53, 54, 55]
                   (fun k => [(5, .int .i64 ((M + lensB (L.take k) : Nat) : Int)), (41, .int .i64 k)])
                   (fun k w => Hp w0 [] [] w ∧ k ≤ L.length)
                   (fun k => L.length - k) (0) ?_ ?_ ?_
               · repeat' (first | exact sub_lst_nil (sub_nil _) | refine sub_lst rfl ?_ | (refine sub_lst_eq rfl ?_ ?_; · first | rfl | ((refine congrArg (Value.int .i64) ?_; simp [lensB])) | (simp; done) | (congr 1; omega)))
               · exact ⟨hp, Nat.zero_le _⟩
               · intro k w hJ
                 clear hp
                 obtain ⟨hp, hle⟩ := hJ
                 rcases Nat.lt_or_ge k L.length with hlt | hge
                 all_goals (
                  refine K_seq ?_
                  refine K_region ?_
                  first
                    | (refine W_lss_t rfl rfl ?_ rfl ?_; (focus (omega)))
                    | (refine W_lss_f rfl rfl ?_ rfl ?_; (focus (omega)))
                    | (refine W_lss rfl rfl rfl ?_)
                  refine W_nil ?_
                  refine N_then_k ?_
                  refine K_seq ?_
                  first
                    | refine K_cond_d rfl (fun hc5 => ?_) (fun hc5 => ?_)
                    | refine K_cond_n rfl (fun hc5 => ?_) (fun hc5 => ?_)
                    | refine K_cond_nb rfl (fun hc5 => ?_) (fun hc5 => ?_)
                    | refine K_cond_t rfl (fun hc5 => ?_) (fun hc5 => ?_)
                  · try (exfalso; first | omega | (simp only [Bool.false_eq_true, reduceCtorEq] at hc5; done) | (refine absurd hc5 ?_; with_reducible assumption) | (refine absurd ?_ hc5; with_reducible assumption))
                    all_goals (
                     refine K_skip ?_
                     refine N_then_k ?_
                     refine K_seq ?_
                     refine K_block ?_
                     refine K_seq ?_
                     refine K_region ?_
                     obtain ⟨x, hx⟩ : ∃ x, L[k]? = some x := ⟨_, List.getElem?_eq_getElem (by omega)⟩
                     have hxs := strV_at hx
                     obtain ⟨bb, oo, rfl⟩ := hrl.some (by intro e; rw [e] at hxs; simp at hxs)
                     have hcx := hrl.cell hxs
                     have hlx := lensB_take hx
                     have hly := lensB_le L (k + 1)
                     refine W_indexAddr_sl Tryd.underlying22 sz9 rfl rfl ?_ ?_ rfl ?_
                     (focus (omega))
                     (focus (first | omega | (simp; done) | (simp; omega)))
                     refine W_load_s Tryd.underlying9 rfl rfl (by exact hp.cell_old0 (by simpa using hcx)) rfl ?_
                     refine W_assign rfl rfl ?_
                     refine W_nil ?_
                     refine N_then_k ?_
                     refine K_seq ?_
                     refine K_seq ?_
                     refine K_region ?_
                     refine W_move rfl rfl ?_
                     refine W_len_s Tryd.underlying9 rfl rfl ?_
                     refine W_move rfl rfl ?_
                     first
                       | (refine W_sub rfl rfl (wr_i64 ?_) rfl ?_; (focus (omega)))
                       | (refine W_sub rfl rfl rfl rfl ?_)
                     first
                       | (refine W_gtr_t rfl rfl ?_ rfl ?_; (focus (omega)))
                       | (refine W_gtr_f rfl rfl ?_ rfl ?_; (focus (omega)))
                       | (refine W_gtr rfl rfl rfl ?_)
                     refine W_nil ?_
                     refine N_then_k ?_
                     first
                       | refine K_cond_d rfl (fun hc6 => ?_) (fun hc6 => ?_)
                       | refine K_cond_n rfl (fun hc6 => ?_) (fun hc6 => ?_)
                       | refine K_cond_nb rfl (fun hc6 => ?_) (fun hc6 => ?_)
                       | refine K_cond_t rfl (fun hc6 => ?_) (fun hc6 => ?_)
                     · try (exfalso; first | omega | (simp only [Bool.false_eq_true, reduceCtorEq] at hc6; done) | (refine absurd hc6 ?_; with_reducible assumption) | (refine absurd ?_ hc6; with_reducible assumption))
                       all_goals (
                        refine K_region ?_
                        refine W_mkiface Tryd.underlying9 rfl rfl rfl ?_
                        fail "a panic"
                        refine W_nil ?_
                        refine N_then_k ?_
                        refine K_region ?_
                        refine W_move rfl rfl ?_
                        refine W_move rfl rfl ?_
                        refine W_len_s Tryd.underlying9 rfl rfl ?_
                        first
                          | (refine W_add rfl rfl (wr_i64 ?_) rfl ?_; (focus (omega)))
                          | (refine W_add rfl rfl rfl rfl ?_)
                        refine W_assign rfl rfl ?_
                        refine W_nil ?_
                        refine N_block_normal ?_
                        refine N_then_k ?_
                        refine K_region ?_
                        first
                          | (refine W_add rfl rfl (wr_i64 ?_) rfl ?_; (focus (omega)))
                          | (refine W_add rfl rfl rfl rfl ?_)
                        refine W_move rfl rfl ?_
                        refine W_nil ?_
                        refine N_again (k + 1) (sub_end ?_ ?_) ?_ ?_
                        · repeat' (first | exact sub_lst_nil (sub_nil _) | refine sub_lst rfl ?_ | (refine sub_lst_eq rfl ?_ ?_; · first | rfl | ((refine congrArg (Value.int .i64) ?_; rw [hlx]; push_cast; omega)) | (simp; done) | (congr 1; omega)))
                        · repeat' (first | exact sub_refl _ | exact sub_strip _ _ | refine sub_s_cons rfl ?_ | refine sub_s_lst rfl ?_ | refine sub_s_strip rfl ?_)
                        · exact ⟨hp, hlt⟩
                        · omega)
                     · try (exfalso; first | omega | (simp only [Bool.false_eq_true, reduceCtorEq] at hc6; done) | (refine absurd hc6 ?_; with_reducible assumption) | (refine absurd ?_ hc6; with_reducible assumption))
                       all_goals (
                        refine K_skip ?_
                        refine N_then_k ?_
                        refine K_region ?_
                        refine W_move rfl rfl ?_
                        refine W_move rfl rfl ?_
                        refine W_len_s Tryd.underlying9 rfl rfl ?_
                        first
                          | (refine W_add rfl rfl (wr_i64 ?_) rfl ?_; (focus (omega)))
                          | (refine W_add rfl rfl rfl rfl ?_)
                        refine W_assign rfl rfl ?_
                        refine W_nil ?_
                        refine N_block_normal ?_
                        refine N_then_k ?_
                        refine K_region ?_
                        first
                          | (refine W_add rfl rfl (wr_i64 ?_) rfl ?_; (focus (omega)))
                          | (refine W_add rfl rfl rfl rfl ?_)
                        refine W_move rfl rfl ?_
                        refine W_nil ?_
                        refine N_again (k + 1) (sub_end ?_ ?_) ?_ ?_
                        · repeat' (first | exact sub_lst_nil (sub_nil _) | refine sub_lst rfl ?_ | (refine sub_lst_eq rfl ?_ ?_; · first | rfl | ((refine congrArg (Value.int .i64) ?_; rw [hlx]; push_cast; omega)) | (simp; done) | (congr 1; omega)))
                        · repeat' (first | exact sub_refl _ | exact sub_strip _ _ | refine sub_s_cons rfl ?_ | refine sub_s_lst rfl ?_ | refine sub_s_strip rfl ?_)
                        · exact ⟨hp, hlt⟩
                        · omega))
                  · try (exfalso; first | omega | (simp only [Bool.false_eq_true, reduceCtorEq] at hc5; done) | (refine absurd hc5 ?_; with_reducible assumption) | (refine absurd ?_ hc5; with_reducible assumption))
                    all_goals (
                     refine K_exit ?_
                     refine N_then_exit ?_
                     refine N_then_exit ?_
                     refine N_block_exit ?_
                     refine N_then_k ?_
                     refine K_seq ?_
                     refine K_region ?_
                     have hll := lensB_le L k
                     refine W_alloc hp zv52 rfl rfl ?_
                     clear hp; intro b8 w hp
                     refine W_nil ?_
                     refine N_then_k ?_
                     refine K_seq ?_
                     refine K_region ?_
                     refine W_move rfl rfl ?_
                     refine W_call rfl rfl rfl (CallV.static go36 (bgrow w0 b8 (M + lensB (L.take k)) (by omega) [] w (by simpa using hp))) (fun u w2 hr => ?_)
                     obtain ⟨rfl, H, hb, hp2⟩ := hr
                     clear hp; revert hp2; generalize w2 = w; intro hp
                     try simp only [List.append_nil] at hp
                     refine W_nil ?_
                     refine N_then_k ?_
                     refine K_seq ?_
                     refine K_region ?_
                     refine W_move rfl rfl ?_
                     obtain ⟨x0, hx0⟩ : ∃ x, L[0]? = some x := ⟨_, List.getElem?_eq_getElem (by omega)⟩
                     have hxs := strV_at hx0
                     obtain ⟨bb, oo, rfl⟩ := hrl.some (by intro e; rw [e] at hxs; simp at hxs)
                     have hcx := hrl.cell hxs
                     have hlz := joinB_le sep L 1
                     rw [joinB_one hx0] at hlz
                     refine W_indexAddr_sl Tryd.underlying22 sz9 rfl rfl ?_ ?_ rfl ?_
                     (focus (omega))
                     (focus (first | omega | (simp; done) | (simp; omega)))
                     refine W_load_s Tryd.underlying9 rfl rfl (by exact hp.cell_old0 (by simpa using hcx)) rfl ?_
                     refine W_call rfl rfl rfl (CallV.static go37 (bwrites w0 b8 ([]) (x0) (by simp; omega) H [] w hb (by simpa using hp))) (fun u w2 hr => ?_)
                     obtain ⟨rfl, H2, hb2, hp2⟩ := hr
                     clear hp; revert hp2; generalize w2 = w; intro hp
                     try simp only [List.append_nil] at hp
                     refine W_nil ?_
                     refine N_then_k ?_
                     refine K_seq ?_
                     refine K_seq ?_
                     refine K_region ?_
                     refine W_move rfl rfl ?_
                     rw [List.nil_append] at hb2
                     refine W_cut_l (m := 1) (s := 1) hrl (by simp) hcl Tryd.underlying22 sz9 rfl rfl rfl (by omega) rfl ?_
                     intro A' c' hc' hr'
                     refine W_len_sl Tryd.underlying22 rfl rfl ?_
                     refine W_move rfl rfl ?_
                     refine W_nil ?_
                     refine N_then_k ?_
                     refine K_block ?_
                     refine K_loop (σ := Nat × Heap) [10, 65, 66, 67, 68, 69, 70, 71, 72, 73]
                         (fun q => [(65, .int .i64 q.1)])
                         (fun q w => BH b8 (joinB sep (L.take (q.1 + 1))) q.2 ∧ Hp w0 [] q.2 w ∧ q.1 ≤ L.length - 1)
                         (fun q => L.length - q.1) ((0, H2)) ?_ ?_ ?_
                     · repeat' (first | exact sub_lst_nil (sub_nil _) | refine sub_lst rfl ?_ | (refine sub_lst_eq rfl ?_ ?_; · first | rfl | (simp; done) | (congr 1; omega)))
                     · exact ⟨by rw [joinB_one hx0]; exact hb2, hp, Nat.zero_le _⟩
                     · intro ⟨j, H⟩ w hJ
                       clear hp
                       obtain ⟨hb, hp, hle2⟩ := hJ
                       simp only at hb hp hle2
                       change K _ _ _ _ (.lst ([(65, .int .i64 j)]) _) _
                       rcases Nat.lt_or_ge j (L.length - 1) with hlt2 | hge2
                       all_goals (
                        refine K_seq ?_
                        refine K_region ?_
                        first
                          | (refine W_lss_t rfl rfl ?_ rfl ?_; (focus (omega)))
                          | (refine W_lss_f rfl rfl ?_ rfl ?_; (focus (omega)))
                          | (refine W_lss rfl rfl rfl ?_)
                        refine W_nil ?_
                        refine N_then_k ?_
                        refine K_seq ?_
                        first
                          | refine K_cond_d rfl (fun hc7 => ?_) (fun hc7 => ?_)
                          | refine K_cond_n rfl (fun hc7 => ?_) (fun hc7 => ?_)
                          | refine K_cond_nb rfl (fun hc7 => ?_) (fun hc7 => ?_)
                          | refine K_cond_t rfl (fun hc7 => ?_) (fun hc7 => ?_)
                        · try (exfalso; first | omega | (simp only [Bool.false_eq_true, reduceCtorEq] at hc7; done) | (refine absurd hc7 ?_; with_reducible assumption) | (refine absurd ?_ hc7; with_reducible assumption))
                          all_goals (
                           refine K_skip ?_
                           refine N_then_k ?_
                           refine K_seq ?_
                           refine K_block ?_
                           refine K_seq ?_
                           refine K_region ?_
                           obtain ⟨y, hy⟩ : ∃ x, L[j + 1]? = some x := ⟨_, List.getElem?_eq_getElem (by omega)⟩
                           have hys : ((L.map strV).drop (1 * 1))[j]? = some (strV y) := by rw [List.getElem?_drop, Nat.one_mul, Nat.add_comm]; exact strV_at hy
                           obtain ⟨bb, oo, rfl⟩ := hr'.some (by intro e; rw [e] at hys; simp at hys)
                           have hcx := hr'.cell hys
                           have hjm := joinB_more (sep := sep) hy
                           have hl2 := joinB_le sep L (j + 1 + 1)
                           have hl3 := congrArg List.length hjm
                           simp only [List.length_append] at hl3
                           refine W_indexAddr_sl Tryd.underlying22 sz9 rfl rfl ?_ ?_ rfl ?_
                           (focus (omega))
                           (focus (first | omega | (simp; done) | (simp; omega)))
                           refine W_load_s Tryd.underlying9 rfl rfl (by exact hp.cell_old0 (by simpa using hcx)) rfl ?_
                           refine W_assign rfl rfl ?_
                           refine W_nil ?_
                           refine N_then_k ?_
                           refine K_seq ?_
                           refine K_region ?_
                           refine W_move rfl rfl ?_
                           refine W_call rfl rfl rfl (CallV.static go37 (bwrites w0 b8 (joinB sep (L.take (j + 1))) (sep) (by omega) H [] w hb (by simpa using hp))) (fun u w2 hr => ?_)
                           obtain ⟨rfl, H2, hb2, hp2⟩ := hr
                           clear hp; revert hp2; generalize w2 = w; intro hp
                           try simp only [List.append_nil] at hp
                           refine W_nil ?_
                           refine N_then_k ?_
                           refine K_region ?_
                           refine W_move rfl rfl ?_
                           refine W_call rfl rfl rfl (CallV.static go37 (bwrites w0 b8 (joinB sep (L.take (j + 1)) ++ sep) (y) (by simp; omega) H2 [] w hb2 (by simpa using hp))) (fun u w2 hr => ?_)
                           obtain ⟨rfl, H3, hb3, hp2⟩ := hr
                           clear hp; revert hp2; generalize w2 = w; intro hp
                           try simp only [List.append_nil] at hp
                           refine W_nil ?_
                           refine N_block_normal ?_
                           refine N_then_k ?_
                           refine K_region ?_
                           first
                             | (refine W_add rfl rfl (wr_i64 ?_) rfl ?_; (focus (omega)))
                             | (refine W_add rfl rfl rfl rfl ?_)
                           refine W_move rfl rfl ?_
                           refine W_nil ?_
                           refine N_again (j + 1, H3) (sub_end ?_ ?_) ⟨by show BH _ (joinB sep (L.take (j + 1 + 1))) _; rw [hjm]; exact hb3, hp, hlt2⟩ ?_
                           · repeat' (first | exact sub_lst_nil (sub_nil _) | refine sub_lst rfl ?_ | (refine sub_lst_eq rfl ?_ ?_; · first | rfl | (simp; done) | (congr 1; omega)))
                           · repeat' (first | exact sub_refl _ | exact sub_strip _ _ | refine sub_s_cons rfl ?_ | refine sub_s_lst rfl ?_ | refine sub_s_strip rfl ?_)
                           · show _ < _; simp only; omega)
                        · try (exfalso; first | omega | (simp only [Bool.false_eq_true, reduceCtorEq] at hc7; done) | (refine absurd hc7 ?_; with_reducible assumption) | (refine absurd ?_ hc7; with_reducible assumption))
                          all_goals (
                           refine K_exit ?_
                           refine N_then_exit ?_
                           refine N_then_exit ?_
                           refine N_block_exit ?_
                           refine N_then_k ?_
                           refine K_seq ?_
                           refine K_region ?_
                           refine W_call rfl rfl rfl (CallV.static go38 (bstring w0 b8 (joinB sep (L.take (j + 1))) H [] w hb (by simpa using hp))) (fun u w2 hr => ?_)
                           obtain ⟨rfl, hp2⟩ := hr
                           clear hp; revert hp2; generalize w2 = w; intro hp
                           refine W_assign rfl rfl ?_
                           refine W_nil ?_
                           refine N_then_k ?_
                           refine K_ret ?_
                           refine N_done1 (.inr rfl) rfl rfl ?_
                           refine ⟨_, rfl, ?_, hp.nil⟩
                           first
                             | (rw [List.eq_nil_of_length_eq_zero h2]; rfl)
                             | (have := joinB_one (sep := sep) hx; rw [List.take_of_length_le (by omega)] at this; rw [this])
                             | (rw [List.take_of_length_le (by omega)]))))))
            · try (exfalso; first | omega | (simp only [Bool.false_eq_true, reduceCtorEq] at hc4; done) | (refine absurd hc4 ?_; with_reducible assumption) | (refine absurd ?_ hc4; with_reducible assumption))
              all_goals (
               refine K_skip ?_
               refine N_then_k ?_
               refine K_region ?_
               refine W_move rfl rfl ?_
               refine W_move rfl rfl ?_
               refine W_len_s Tryd.underlying9 rfl rfl ?_
               refine W_move rfl rfl ?_
               refine W_len_sl Tryd.underlying22 rfl rfl ?_
               first
                 | (refine W_sub rfl rfl (wr_i64 ?_) rfl ?_; (focus (omega)))
                 | (refine W_sub rfl rfl rfl rfl ?_)
               refine W_mul rfl rfl hmul rfl ?_
               first
                 | (refine W_add rfl rfl (wr_i64 ?_) rfl ?_; (focus (omega)))
                 | (refine W_add rfl rfl rfl rfl ?_)
               refine W_assign rfl rfl ?_
               refine W_nil ?_
               refine N_then_k ?_
               refine K_seq ?_
               refine K_seq ?_
               refine K_region ?_
               refine W_move rfl rfl ?_
               refine W_len_sl Tryd.underlying22 rfl rfl ?_
               refine W_move rfl rfl ?_
               refine W_nil ?_
               refine N_then_k ?_
               refine K_block ?_
               refine K_loop (σ := Nat) [5, 7, 41, 42, 43, 44, 45, 46, 47, 48, 49, 50, 51, 52, 53, 54, 55]
                   (fun k => [(5, .int .i64 ((M + lensB (L.take k) : Nat) : Int)), (41, .int .i64 k)])
                   (fun k w => Hp w0 [] [] w ∧ k ≤ L.length)
                   (fun k => L.length - k) (0) ?_ ?_ ?_
               · repeat' (first | exact sub_lst_nil (sub_nil _) | refine sub_lst rfl ?_ | (refine sub_lst_eq rfl ?_ ?_; · first | rfl | ((refine congrArg (Value.int .i64) ?_; simp [lensB])) | (simp; done) | (congr 1; omega)))
               · exact ⟨hp, Nat.zero_le _⟩
               · intro k w hJ
                 clear hp
                 obtain ⟨hp, hle⟩ := hJ
                 rcases Nat.lt_or_ge k L.length with hlt | hge
                 all_goals (
                  refine K_seq ?_
                  refine K_region ?_
                  first
                    | (refine W_lss_t rfl rfl ?_ rfl ?_; (focus (omega)))
                    | (refine W_lss_f rfl rfl ?_ rfl ?_; (focus (omega)))
                    | (refine W_lss rfl rfl rfl ?_)
                  refine W_nil ?_
                  refine N_then_k ?_
                  refine K_seq ?_
                  first
                    | refine K_cond_d rfl (fun hc8 => ?_) (fun hc8 => ?_)
                    | refine K_cond_n rfl (fun hc8 => ?_) (fun hc8 => ?_)
                    | refine K_cond_nb rfl (fun hc8 => ?_) (fun hc8 => ?_)
                    | refine K_cond_t rfl (fun hc8 => ?_) (fun hc8 => ?_)
                  · try (exfalso; first | omega | (simp only [Bool.false_eq_true, reduceCtorEq] at hc8; done) | (refine absurd hc8 ?_; with_reducible assumption) | (refine absurd ?_ hc8; with_reducible assumption))
                    all_goals (
                     refine K_skip ?_
                     refine N_then_k ?_
                     refine K_seq ?_
                     refine K_block ?_
                     refine K_seq ?_
                     refine K_region ?_
                     obtain ⟨x, hx⟩ : ∃ x, L[k]? = some x := ⟨_, List.getElem?_eq_getElem (by omega)⟩
                     have hxs := strV_at hx
                     obtain ⟨bb, oo, rfl⟩ := hrl.some (by intro e; rw [e] at hxs; simp at hxs)
                     have hcx := hrl.cell hxs
                     have hlx := lensB_take hx
                     have hly := lensB_le L (k + 1)
                     refine W_indexAddr_sl Tryd.underlying22 sz9 rfl rfl ?_ ?_ rfl ?_
                     (focus (omega))
                     (focus (first | omega | (simp; done) | (simp; omega)))
                     refine W_load_s Tryd.underlying9 rfl rfl (by exact hp.cell_old0 (by simpa using hcx)) rfl ?_
                     refine W_assign rfl rfl ?_
                     refine W_nil ?_
                     refine N_then_k ?_
                     refine K_seq ?_
                     refine K_seq ?_
                     refine K_region ?_
                     refine W_move rfl rfl ?_
                     refine W_len_s Tryd.underlying9 rfl rfl ?_
                     refine W_move rfl rfl ?_
                     first
                       | (refine W_sub rfl rfl (wr_i64 ?_) rfl ?_; (focus (omega)))
                       | (refine W_sub rfl rfl rfl rfl ?_)
                     first
                       | (refine W_gtr_t rfl rfl ?_ rfl ?_; (focus (omega)))
                       | (refine W_gtr_f rfl rfl ?_ rfl ?_; (focus (omega)))
                       | (refine W_gtr rfl rfl rfl ?_)
                     refine W_nil ?_
                     refine N_then_k ?_
                     first
                       | refine K_cond_d rfl (fun hc9 => ?_) (fun hc9 => ?_)
                       | refine K_cond_n rfl (fun hc9 => ?_) (fun hc9 => ?_)
                       | refine K_cond_nb rfl (fun hc9 => ?_) (fun hc9 => ?_)
                       | refine K_cond_t rfl (fun hc9 => ?_) (fun hc9 => ?_)
                     · try (exfalso; first | omega | (simp only [Bool.false_eq_true, reduceCtorEq] at hc9; done) | (refine absurd hc9 ?_; with_reducible assumption) | (refine absurd ?_ hc9; with_reducible assumption))
                       all_goals (
                        refine K_region ?_
                        refine W_mkiface Tryd.underlying9 rfl rfl rfl ?_
                        fail "a panic"
                        refine W_nil ?_
                        refine N_then_k ?_
                        refine K_region ?_
                        refine W_move rfl rfl ?_
                        refine W_move rfl rfl ?_
                        refine W_len_s Tryd.underlying9 rfl rfl ?_
                        first
                          | (refine W_add rfl rfl (wr_i64 ?_) rfl ?_; (focus (omega)))
                          | (refine W_add rfl rfl rfl rfl ?_)
                        refine W_assign rfl rfl ?_
                        refine W_nil ?_
                        refine N_block_normal ?_
                        refine N_then_k ?_
                        refine K_region ?_
                        first
                          | (refine W_add rfl rfl (wr_i64 ?_) rfl ?_; (focus (omega)))
                          | (refine W_add rfl rfl rfl rfl ?_)
                        refine W_move rfl rfl ?_
                        refine W_nil ?_
                        refine N_again (k + 1) (sub_end ?_ ?_) ?_ ?_
                        · repeat' (first | exact sub_lst_nil (sub_nil _) | refine sub_lst rfl ?_ | (refine sub_lst_eq rfl ?_ ?_; · first | rfl | ((refine congrArg (Value.int .i64) ?_; rw [hlx]; push_cast; omega)) | (simp; done) | (congr 1; omega)))
                        · repeat' (first | exact sub_refl _ | exact sub_strip _ _ | refine sub_s_cons rfl ?_ | refine sub_s_lst rfl ?_ | refine sub_s_strip rfl ?_)
                        · exact ⟨hp, hlt⟩
                        · omega)
                     · try (exfalso; first | omega | (simp only [Bool.false_eq_true, reduceCtorEq] at hc9; done) | (refine absurd hc9 ?_; with_reducible assumption) | (refine absurd ?_ hc9; with_reducible assumption))
                       all_goals (
                        refine K_skip ?_
                        refine N_then_k ?_
                        refine K_region ?_
                        refine W_move rfl rfl ?_
                        refine W_move rfl rfl ?_
                        refine W_len_s Tryd.underlying9 rfl rfl ?_
                        first
                          | (refine W_add rfl rfl (wr_i64 ?_) rfl ?_; (focus (omega)))
                          | (refine W_add rfl rfl rfl rfl ?_)
                        refine W_assign rfl rfl ?_
                        refine W_nil ?_
                        refine N_block_normal ?_
                        refine N_then_k ?_
                        refine K_region ?_
                        first
                          | (refine W_add rfl rfl (wr_i64 ?_) rfl ?_; (focus (omega)))
                          | (refine W_add rfl rfl rfl rfl ?_)
                        refine W_move rfl rfl ?_
                        refine W_nil ?_
                        refine N_again (k + 1) (sub_end ?_ ?_) ?_ ?_
                        · repeat' (first | exact sub_lst_nil (sub_nil _) | refine sub_lst rfl ?_ | (refine sub_lst_eq rfl ?_ ?_; · first | rfl | ((refine congrArg (Value.int .i64) ?_; rw [hlx]; push_cast; omega)) | (simp; done) | (congr 1; omega)))
                        · repeat' (first | exact sub_refl _ | exact sub_strip _ _ | refine sub_s_cons rfl ?_ | refine sub_s_lst rfl ?_ | refine sub_s_strip rfl ?_)
                        · exact ⟨hp, hlt⟩
                        · omega))
                  · try (exfalso; first | omega | (simp only [Bool.false_eq_true, reduceCtorEq] at hc8; done) | (refine absurd hc8 ?_; with_reducible assumption) | (refine absurd ?_ hc8; with_reducible assumption))
                    all_goals (
                     refine K_exit ?_
                     refine N_then_exit ?_
                     refine N_then_exit ?_
                     refine N_block_exit ?_
                     refine N_then_k ?_
                     refine K_seq ?_
                     refine K_region ?_
                     have hll := lensB_le L k
                     refine W_alloc hp zv52 rfl rfl ?_
                     clear hp; intro b8 w hp
                     refine W_nil ?_
                     refine N_then_k ?_
                     refine K_seq ?_
                     refine K_region ?_
                     refine W_move rfl rfl ?_
                     refine W_call rfl rfl rfl (CallV.static go36 (bgrow w0 b8 (M + lensB (L.take k)) (by omega) [] w (by simpa using hp))) (fun u w2 hr => ?_)
                     obtain ⟨rfl, H, hb, hp2⟩ := hr
                     clear hp; revert hp2; generalize w2 = w; intro hp
                     try simp only [List.append_nil] at hp
                     refine W_nil ?_
                     refine N_then_k ?_
                     refine K_seq ?_
                     refine K_region ?_
                     refine W_move rfl rfl ?_
                     obtain ⟨x0, hx0⟩ : ∃ x, L[0]? = some x := ⟨_, List.getElem?_eq_getElem (by omega)⟩
                     have hxs := strV_at hx0
                     obtain ⟨bb, oo, rfl⟩ := hrl.some (by intro e; rw [e] at hxs; simp at hxs)
                     have hcx := hrl.cell hxs
                     have hlz := joinB_le sep L 1
                     rw [joinB_one hx0] at hlz
                     refine W_indexAddr_sl Tryd.underlying22 sz9 rfl rfl ?_ ?_ rfl ?_
                     (focus (omega))
                     (focus (first | omega | (simp; done) | (simp; omega)))
                     refine W_load_s Tryd.underlying9 rfl rfl (by exact hp.cell_old0 (by simpa using hcx)) rfl ?_
                     refine W_call rfl rfl rfl (CallV.static go37 (bwrites w0 b8 ([]) (x0) (by simp; omega) H [] w hb (by simpa using hp))) (fun u w2 hr => ?_)
                     obtain ⟨rfl, H2, hb2, hp2⟩ := hr
                     clear hp; revert hp2; generalize w2 = w; intro hp
                     try simp only [List.append_nil] at hp
                     refine W_nil ?_
                     refine N_then_k ?_
                     refine K_seq ?_
                     refine K_seq ?_
                     refine K_region ?_
                     refine W_move rfl rfl ?_
                     rw [List.nil_append] at hb2
                     refine W_cut_l (m := 1) (s := 1) hrl (by simp) hcl Tryd.underlying22 sz9 rfl rfl rfl (by omega) rfl ?_
                     intro A' c' hc' hr'
                     refine W_len_sl Tryd.underlying22 rfl rfl ?_
                     refine W_move rfl rfl ?_
                     refine W_nil ?_
                     refine N_then_k ?_
                     refine K_block ?_
                     refine K_loop (σ := Nat × Heap) [10, 65, 66, 67, 68, 69, 70, 71, 72, 73]
                         (fun q => [(65, .int .i64 q.1)])
                         (fun q w => BH b8 (joinB sep (L.take (q.1 + 1))) q.2 ∧ Hp w0 [] q.2 w ∧ q.1 ≤ L.length - 1)
                         (fun q => L.length - q.1) ((0, H2)) ?_ ?_ ?_
                     · repeat' (first | exact sub_lst_nil (sub_nil _) | refine sub_lst rfl ?_ | (refine sub_lst_eq rfl ?_ ?_; · first | rfl | (simp; done) | (congr 1; omega)))
                     · exact ⟨by rw [joinB_one hx0]; exact hb2, hp, Nat.zero_le _⟩
                     · intro ⟨j, H⟩ w hJ
                       clear hp
                       obtain ⟨hb, hp, hle2⟩ := hJ
                       simp only at hb hp hle2
                       change K _ _ _ _ (.lst ([(65, .int .i64 j)]) _) _
                       rcases Nat.lt_or_ge j (L.length - 1) with hlt2 | hge2
                       all_goals (
                        refine K_seq ?_
                        refine K_region ?_
                        first
                          | (refine W_lss_t rfl rfl ?_ rfl ?_; (focus (omega)))
                          | (refine W_lss_f rfl rfl ?_ rfl ?_; (focus (omega)))
                          | (refine W_lss rfl rfl rfl ?_)
                        refine W_nil ?_
                        refine N_then_k ?_
                        refine K_seq ?_
                        first
                          | refine K_cond_d rfl (fun hc10 => ?_) (fun hc10 => ?_)
                          | refine K_cond_n rfl (fun hc10 => ?_) (fun hc10 => ?_)
                          | refine K_cond_nb rfl (fun hc10 => ?_) (fun hc10 => ?_)
                          | refine K_cond_t rfl (fun hc10 => ?_) (fun hc10 => ?_)
                        · try (exfalso; first | omega | (simp only [Bool.false_eq_true, reduceCtorEq] at hc10; done) | (refine absurd hc10 ?_; with_reducible assumption) | (refine absurd ?_ hc10; with_reducible assumption))
                          all_goals (
                           refine K_skip ?_
                           refine N_then_k ?_
                           refine K_seq ?_
                           refine K_block ?_
                           refine K_seq ?_
                           refine K_region ?_
                           obtain ⟨y, hy⟩ : ∃ x, L[j + 1]? = some x := ⟨_, List.getElem?_eq_getElem (by omega)⟩
                           have hys : ((L.map strV).drop (1 * 1))[j]? = some (strV y) := by rw [List.getElem?_drop, Nat.one_mul, Nat.add_comm]; exact strV_at hy
                           obtain ⟨bb, oo, rfl⟩ := hr'.some (by intro e; rw [e] at hys; simp at hys)
                           have hcx := hr'.cell hys
                           have hjm := joinB_more (sep := sep) hy
                           have hl2 := joinB_le sep L (j + 1 + 1)
                           have hl3 := congrArg List.length hjm
                           simp only [List.length_append] at hl3
                           refine W_indexAddr_sl Tryd.underlying22 sz9 rfl rfl ?_ ?_ rfl ?_
                           (focus (omega))
                           (focus (first | omega | (simp; done) | (simp; omega)))
                           refine W_load_s Tryd.underlying9 rfl rfl (by exact hp.cell_old0 (by simpa using hcx)) rfl ?_
                           refine W_assign rfl rfl ?_
                           refine W_nil ?_
                           refine N_then_k ?_
                           refine K_seq ?_
                           refine K_region ?_
                           refine W_move rfl rfl ?_
                           refine W_call rfl rfl rfl (CallV.static go37 (bwrites w0 b8 (joinB sep (L.take (j + 1))) (sep) (by omega) H [] w hb (by simpa using hp))) (fun u w2 hr => ?_)
                           obtain ⟨rfl, H2, hb2, hp2⟩ := hr
                           clear hp; revert hp2; generalize w2 = w; intro hp
                           try simp only [List.append_nil] at hp
                           refine W_nil ?_
                           refine N_then_k ?_
                           refine K_region ?_
                           refine W_move rfl rfl ?_
                           refine W_call rfl rfl rfl (CallV.static go37 (bwrites w0 b8 (joinB sep (L.take (j + 1)) ++ sep) (y) (by simp; omega) H2 [] w hb2 (by simpa using hp))) (fun u w2 hr => ?_)
                           obtain ⟨rfl, H3, hb3, hp2⟩ := hr
                           clear hp; revert hp2; generalize w2 = w; intro hp
                           try simp only [List.append_nil] at hp
                           refine W_nil ?_
                           refine N_block_normal ?_
                           refine N_then_k ?_
                           refine K_region ?_
                           first
                             | (refine W_add rfl rfl (wr_i64 ?_) rfl ?_; (focus (omega)))
                             | (refine W_add rfl rfl rfl rfl ?_)
                           refine W_move rfl rfl ?_
                           refine W_nil ?_
                           refine N_again (j + 1, H3) (sub_end ?_ ?_) ⟨by show BH _ (joinB sep (L.take (j + 1 + 1))) _; rw [hjm]; exact hb3, hp, hlt2⟩ ?_
                           · repeat' (first | exact sub_lst_nil (sub_nil _) | refine sub_lst rfl ?_ | (refine sub_lst_eq rfl ?_ ?_; · first | rfl | (simp; done) | (congr 1; omega)))
                           · repeat' (first | exact sub_refl _ | exact sub_strip _ _ | refine sub_s_cons rfl ?_ | refine sub_s_lst rfl ?_ | refine sub_s_strip rfl ?_)
                           · show _ < _; simp only; omega)
                        · try (exfalso; first | omega | (simp only [Bool.false_eq_true, reduceCtorEq] at hc10; done) | (refine absurd hc10 ?_; with_reducible assumption) | (refine absurd ?_ hc10; with_reducible assumption))
                          all_goals (
                           refine K_exit ?_
                           refine N_then_exit ?_
                           refine N_then_exit ?_
                           refine N_block_exit ?_
                           refine N_then_k ?_
                           refine K_seq ?_
                           refine K_region ?_
                           refine W_call rfl rfl rfl (CallV.static go38 (bstring w0 b8 (joinB sep (L.take (j + 1))) H [] w hb (by simpa using hp))) (fun u w2 hr => ?_)
                           obtain ⟨rfl, hp2⟩ := hr
                           clear hp; revert hp2; generalize w2 = w; intro hp
                           refine W_assign rfl rfl ?_
                           refine W_nil ?_
                           refine N_then_k ?_
                           refine K_ret ?_
                           refine N_done1 (.inr rfl) rfl rfl ?_
                           refine ⟨_, rfl, ?_, hp.nil⟩
                           first
                             | (rw [List.eq_nil_of_length_eq_zero h2]; rfl)
                             | (have := joinB_one (sep := sep) hx; rw [List.take_of_length_le (by omega)] at this; rw [this])
                             | (rw [List.take_of_length_le (by omega)])))))))
         · try (exfalso; first | omega | (simp only [Bool.false_eq_true, reduceCtorEq] at hc3; done) | (refine absurd hc3 ?_; with_reducible assumption) | (refine absurd ?_ hc3; with_reducible assumption))
           all_goals (
            refine K_skip ?_
            refine N_then_k ?_
            refine K_seq ?_
            refine K_seq ?_
            refine K_region ?_
            refine W_move rfl rfl ?_
            refine W_len_sl Tryd.underlying22 rfl rfl ?_
            refine W_move rfl rfl ?_
            refine W_nil ?_
            refine N_then_k ?_
            refine K_block ?_
            refine K_loop (σ := Nat) [5, 7, 41, 42, 43, 44, 45, 46, 47, 48, 49, 50, 51, 52, 53, 54, 55]
                (fun k => [(5, .int .i64 ((M + lensB (L.take k) : Nat) : Int)), (41, .int .i64 k)])
                (fun k w => Hp w0 [] [] w ∧ k ≤ L.length)
                (fun k => L.length - k) (0) ?_ ?_ ?_
            · repeat' (first | exact sub_lst_nil (sub_nil _) | refine sub_lst rfl ?_ | (refine sub_lst_eq rfl ?_ ?_; · first | rfl | ((refine congrArg (Value.int .i64) ?_; simp [lensB])) | (simp; done) | (congr 1; omega)))
            · exact ⟨hp, Nat.zero_le _⟩
            · intro k w hJ
              clear hp
              obtain ⟨hp, hle⟩ := hJ
              rcases Nat.lt_or_ge k L.length with hlt | hge
              all_goals (
               refine K_seq ?_
               refine K_region ?_
               first
                 | (refine W_lss_t rfl rfl ?_ rfl ?_; (focus (omega)))
                 | (refine W_lss_f rfl rfl ?_ rfl ?_; (focus (omega)))
                 | (refine W_lss rfl rfl rfl ?_)
               refine W_nil ?_
               refine N_then_k ?_
               refine K_seq ?_
               first
                 | refine K_cond_d rfl (fun hc11 => ?_) (fun hc11 => ?_)
                 | refine K_cond_n rfl (fun hc11 => ?_) (fun hc11 => ?_)
                 | refine K_cond_nb rfl (fun hc11 => ?_) (fun hc11 => ?_)
                 | refine K_cond_t rfl (fun hc11 => ?_) (fun hc11 => ?_)
               · try (exfalso; first | omega | (simp only [Bool.false_eq_true, reduceCtorEq] at hc11; done) | (refine absurd hc11 ?_; with_reducible assumption) | (refine absurd ?_ hc11; with_reducible assumption))
                 all_goals (
                  refine K_skip ?_
                  refine N_then_k ?_
                  refine K_seq ?_
                  refine K_block ?_
                  refine K_seq ?_
                  refine K_region ?_
                  obtain ⟨x, hx⟩ : ∃ x, L[k]? = some x := ⟨_, List.getElem?_eq_getElem (by omega)⟩
                  have hxs := strV_at hx
                  obtain ⟨bb, oo, rfl⟩ := hrl.some (by intro e; rw [e] at hxs; simp at hxs)
                  have hcx := hrl.cell hxs
                  have hlx := lensB_take hx
                  have hly := lensB_le L (k + 1)
                  refine W_indexAddr_sl Tryd.underlying22 sz9 rfl rfl ?_ ?_ rfl ?_
                  (focus (omega))
                  (focus (first | omega | (simp; done) | (simp; omega)))
                  refine W_load_s Tryd.underlying9 rfl rfl (by exact hp.cell_old0 (by simpa using hcx)) rfl ?_
                  refine W_assign rfl rfl ?_
                  refine W_nil ?_
                  refine N_then_k ?_
                  refine K_seq ?_
                  refine K_seq ?_
                  refine K_region ?_
                  refine W_move rfl rfl ?_
                  refine W_len_s Tryd.underlying9 rfl rfl ?_
                  refine W_move rfl rfl ?_
                  first
                    | (refine W_sub rfl rfl (wr_i64 ?_) rfl ?_; (focus (omega)))
                    | (refine W_sub rfl rfl rfl rfl ?_)
                  first
                    | (refine W_gtr_t rfl rfl ?_ rfl ?_; (focus (omega)))
                    | (refine W_gtr_f rfl rfl ?_ rfl ?_; (focus (omega)))
                    | (refine W_gtr rfl rfl rfl ?_)
                  refine W_nil ?_
                  refine N_then_k ?_
                  first
                    | refine K_cond_d rfl (fun hc12 => ?_) (fun hc12 => ?_)
                    | refine K_cond_n rfl (fun hc12 => ?_) (fun hc12 => ?_)
                    | refine K_cond_nb rfl (fun hc12 => ?_) (fun hc12 => ?_)
                    | refine K_cond_t rfl (fun hc12 => ?_) (fun hc12 => ?_)
                  · try (exfalso; first | omega | (simp only [Bool.false_eq_true, reduceCtorEq] at hc12; done) | (refine absurd hc12 ?_; with_reducible assumption) | (refine absurd ?_ hc12; with_reducible assumption))
                    all_goals (
                     refine K_region ?_
                     refine W_mkiface Tryd.underlying9 rfl rfl rfl ?_
                     fail "a panic"
                     refine W_nil ?_
                     refine N_then_k ?_
                     refine K_region ?_
                     refine W_move rfl rfl ?_
                     refine W_move rfl rfl ?_
                     refine W_len_s Tryd.underlying9 rfl rfl ?_
                     first
                       | (refine W_add rfl rfl (wr_i64 ?_) rfl ?_; (focus (omega)))
                       | (refine W_add rfl rfl rfl rfl ?_)
                     refine W_assign rfl rfl ?_
                     refine W_nil ?_
                     refine N_block_normal ?_
                     refine N_then_k ?_
                     refine K_region ?_
                     first
                       | (refine W_add rfl rfl (wr_i64 ?_) rfl ?_; (focus (omega)))
                       | (refine W_add rfl rfl rfl rfl ?_)
                     refine W_move rfl rfl ?_
                     refine W_nil ?_
                     refine N_again (k + 1) (sub_end ?_ ?_) ?_ ?_
                     · repeat' (first | exact sub_lst_nil (sub_nil _) | refine sub_lst rfl ?_ | (refine sub_lst_eq rfl ?_ ?_; · first | rfl | ((refine congrArg (Value.int .i64) ?_; rw [hlx]; push_cast; omega)) | (simp; done) | (congr 1; omega)))
                     · repeat' (first | exact sub_refl _ | exact sub_strip _ _ | refine sub_s_cons rfl ?_ | refine sub_s_lst rfl ?_ | refine sub_s_strip rfl ?_)
                     · exact ⟨hp, hlt⟩
                     · omega)
                  · try (exfalso; first | omega | (simp only [Bool.false_eq_true, reduceCtorEq] at hc12; done) | (refine absurd hc12 ?_; with_reducible assumption) | (refine absurd ?_ hc12; with_reducible assumption))
                    all_goals (
                     refine K_skip ?_
                     refine N_then_k ?_
                     refine K_region ?_
                     refine W_move rfl rfl ?_
                     refine W_move rfl rfl ?_
                     refine W_len_s Tryd.underlying9 rfl rfl ?_
                     first
                       | (refine W_add rfl rfl (wr_i64 ?_) rfl ?_; (focus (omega)))
                       | (refine W_add rfl rfl rfl rfl ?_)
                     refine W_assign rfl rfl ?_
                     refine W_nil ?_
                     refine N_block_normal ?_
                     refine N_then_k ?_
                     refine K_region ?_
                     first
                       | (refine W_add rfl rfl (wr_i64 ?_) rfl ?_; (focus (omega)))
                       | (refine W_add rfl rfl rfl rfl ?_)
                     refine W_move rfl rfl ?_
                     refine W_nil ?_
                     refine N_again (k + 1) (sub_end ?_ ?_) ?_ ?_
                     · repeat' (first | exact sub_lst_nil (sub_nil _) | refine sub_lst rfl ?_ | (refine sub_lst_eq rfl ?_ ?_; · first | rfl | ((refine congrArg (Value.int .i64) ?_; rw [hlx]; push_cast; omega)) | (simp; done) | (congr 1; omega)))
                     · repeat' (first | exact sub_refl _ | exact sub_strip _ _ | refine sub_s_cons rfl ?_ | refine sub_s_lst rfl ?_ | refine sub_s_strip rfl ?_)
                     · exact ⟨hp, hlt⟩
                     · omega))
               · try (exfalso; first | omega | (simp only [Bool.false_eq_true, reduceCtorEq] at hc11; done) | (refine absurd hc11 ?_; with_reducible assumption) | (refine absurd ?_ hc11; with_reducible assumption))
                 all_goals (
                  refine K_exit ?_
                  refine N_then_exit ?_
                  refine N_then_exit ?_
                  refine N_block_exit ?_
                  refine N_then_k ?_
                  refine K_seq ?_
                  refine K_region ?_
                  have hll := lensB_le L k
                  refine W_alloc hp zv52 rfl rfl ?_
                  clear hp; intro b8 w hp
                  refine W_nil ?_
                  refine N_then_k ?_
                  refine K_seq ?_
                  refine K_region ?_
                  refine W_move rfl rfl ?_
                  refine W_call rfl rfl rfl (CallV.static go36 (bgrow w0 b8 (M + lensB (L.take k)) (by omega) [] w (by simpa using hp))) (fun u w2 hr => ?_)
                  obtain ⟨rfl, H, hb, hp2⟩ := hr
                  clear hp; revert hp2; generalize w2 = w; intro hp
                  try simp only [List.append_nil] at hp
                  refine W_nil ?_
                  refine N_then_k ?_
                  refine K_seq ?_
                  refine K_region ?_
                  refine W_move rfl rfl ?_
                  obtain ⟨x0, hx0⟩ : ∃ x, L[0]? = some x := ⟨_, List.getElem?_eq_getElem (by omega)⟩
                  have hxs := strV_at hx0
                  obtain ⟨bb, oo, rfl⟩ := hrl.some (by intro e; rw [e] at hxs; simp at hxs)
                  have hcx := hrl.cell hxs
                  have hlz := joinB_le sep L 1
                  rw [joinB_one hx0] at hlz
                  refine W_indexAddr_sl Tryd.underlying22 sz9 rfl rfl ?_ ?_ rfl ?_
                  (focus (omega))
                  (focus (first | omega | (simp; done) | (simp; omega)))
                  refine W_load_s Tryd.underlying9 rfl rfl (by exact hp.cell_old0 (by simpa using hcx)) rfl ?_
                  refine W_call rfl rfl rfl (CallV.static go37 (bwrites w0 b8 ([]) (x0) (by simp; omega) H [] w hb (by simpa using hp))) (fun u w2 hr => ?_)
                  obtain ⟨rfl, H2, hb2, hp2⟩ := hr
                  clear hp; revert hp2; generalize w2 = w; intro hp
                  try simp only [List.append_nil] at hp
                  refine W_nil ?_
                  refine N_then_k ?_
                  refine K_seq ?_
                  refine K_seq ?_
                  refine K_region ?_
                  refine W_move rfl rfl ?_
                  rw [List.nil_append] at hb2
                  refine W_cut_l (m := 1) (s := 1) hrl (by simp) hcl Tryd.underlying22 sz9 rfl rfl rfl (by omega) rfl ?_
                  intro A' c' hc' hr'
                  refine W_len_sl Tryd.underlying22 rfl rfl ?_
                  refine W_move rfl rfl ?_
                  refine W_nil ?_
                  refine N_then_k ?_
                  refine K_block ?_
                  refine K_loop (σ := Nat × Heap) [10, 65, 66, 67, 68, 69, 70, 71, 72, 73]
                      (fun q => [(65, .int .i64 q.1)])
                      (fun q w => BH b8 (joinB sep (L.take (q.1 + 1))) q.2 ∧ Hp w0 [] q.2 w ∧ q.1 ≤ L.length - 1)
                      (fun q => L.length - q.1) ((0, H2)) ?_ ?_ ?_
                  · repeat' (first | exact sub_lst_nil (sub_nil _) | refine sub_lst rfl ?_ | (refine sub_lst_eq rfl ?_ ?_; · first | rfl | (simp; done) | (congr 1; omega)))
                  · exact ⟨by rw [joinB_one hx0]; exact hb2, hp, Nat.zero_le _⟩
                  · intro ⟨j, H⟩ w hJ
                    clear hp
                    obtain ⟨hb, hp, hle2⟩ := hJ
                    simp only at hb hp hle2
                    change K _ _ _ _ (.lst ([(65, .int .i64 j)]) _) _
                    rcases Nat.lt_or_ge j (L.length - 1) with hlt2 | hge2
                    all_goals (
                     refine K_seq ?_
                     refine K_region ?_
                     first
                       | (refine W_lss_t rfl rfl ?_ rfl ?_; (focus (omega)))
                       | (refine W_lss_f rfl rfl ?_ rfl ?_; (focus (omega)))
                       | (refine W_lss rfl rfl rfl ?_)
                     refine W_nil ?_
                     refine N_then_k ?_
                     refine K_seq ?_
                     first
                       | refine K_cond_d rfl (fun hc13 => ?_) (fun hc13 => ?_)
                       | refine K_cond_n rfl (fun hc13 => ?_) (fun hc13 => ?_)
                       | refine K_cond_nb rfl (fun hc13 => ?_) (fun hc13 => ?_)
                       | refine K_cond_t rfl (fun hc13 => ?_) (fun hc13 => ?_)
                     · try (exfalso; first | omega | (simp only [Bool.false_eq_true, reduceCtorEq] at hc13; done) | (refine absurd hc13 ?_; with_reducible assumption) | (refine absurd ?_ hc13; with_reducible assumption))
                       all_goals (
                        refine K_skip ?_
                        refine N_then_k ?_
                        refine K_seq ?_
                        refine K_block ?_
                        refine K_seq ?_
                        refine K_region ?_
                        obtain ⟨y, hy⟩ : ∃ x, L[j + 1]? = some x := ⟨_, List.getElem?_eq_getElem (by omega)⟩
                        have hys : ((L.map strV).drop (1 * 1))[j]? = some (strV y) := by rw [List.getElem?_drop, Nat.one_mul, Nat.add_comm]; exact strV_at hy
                        obtain ⟨bb, oo, rfl⟩ := hr'.some (by intro e; rw [e] at hys; simp at hys)
                        have hcx := hr'.cell hys
                        have hjm := joinB_more (sep := sep) hy
                        have hl2 := joinB_le sep L (j + 1 + 1)
                        have hl3 := congrArg List.length hjm
                        simp only [List.length_append] at hl3
                        refine W_indexAddr_sl Tryd.underlying22 sz9 rfl rfl ?_ ?_ rfl ?_
                        (focus (omega))
                        (focus (first | omega | (simp; done) | (simp; omega)))
                        refine W_load_s Tryd.underlying9 rfl rfl (by exact hp.cell_old0 (by simpa using hcx)) rfl ?_
                        refine W_assign rfl rfl ?_
                        refine W_nil ?_
                        refine N_then_k ?_
                        refine K_seq ?_
                        refine K_region ?_
                        refine W_move rfl rfl ?_
                        refine W_call rfl rfl rfl (CallV.static go37 (bwrites w0 b8 (joinB sep (L.take (j + 1))) (sep) (by omega) H [] w hb (by simpa using hp))) (fun u w2 hr => ?_)
                        obtain ⟨rfl, H2, hb2, hp2⟩ := hr
                        clear hp; revert hp2; generalize w2 = w; intro hp
                        try simp only [List.append_nil] at hp
                        refine W_nil ?_
                        refine N_then_k ?_
                        refine K_region ?_
                        refine W_move rfl rfl ?_
                        refine W_call rfl rfl rfl (CallV.static go37 (bwrites w0 b8 (joinB sep (L.take (j + 1)) ++ sep) (y) (by simp; omega) H2 [] w hb2 (by simpa using hp))) (fun u w2 hr => ?_)
                        obtain ⟨rfl, H3, hb3, hp2⟩ := hr
                        clear hp; revert hp2; generalize w2 = w; intro hp
                        try simp only [List.append_nil] at hp
                        refine W_nil ?_
                        refine N_block_normal ?_
                        refine N_then_k ?_
                        refine K_region ?_
                        first
                          | (refine W_add rfl rfl (wr_i64 ?_) rfl ?_; (focus (omega)))
                          | (refine W_add rfl rfl rfl rfl ?_)
                        refine W_move rfl rfl ?_
                        refine W_nil ?_
                        refine N_again (j + 1, H3) (sub_end ?_ ?_) ⟨by show BH _ (joinB sep (L.take (j + 1 + 1))) _; rw [hjm]; exact hb3, hp, hlt2⟩ ?_
                        · repeat' (first | exact sub_lst_nil (sub_nil _) | refine sub_lst rfl ?_ | (refine sub_lst_eq rfl ?_ ?_; · first | rfl | (simp; done) | (congr 1; omega)))
                        · repeat' (first | exact sub_refl _ | exact sub_strip _ _ | refine sub_s_cons rfl ?_ | refine sub_s_lst rfl ?_ | refine sub_s_strip rfl ?_)
                        · show _ < _; simp only; omega)
                     · try (exfalso; first | omega | (simp only [Bool.false_eq_true, reduceCtorEq] at hc13; done) | (refine absurd hc13 ?_; with_reducible assumption) | (refine absurd ?_ hc13; with_reducible assumption))
                       all_goals (
                        refine K_exit ?_
                        refine N_then_exit ?_
                        refine N_then_exit ?_
                        refine N_block_exit ?_
                        refine N_then_k ?_
                        refine K_seq ?_
                        refine K_region ?_
                        refine W_call rfl rfl rfl (CallV.static go38 (bstring w0 b8 (joinB sep (L.take (j + 1))) H [] w hb (by simpa using hp))) (fun u w2 hr => ?_)
                        obtain ⟨rfl, hp2⟩ := hr
                        clear hp; revert hp2; generalize w2 = w; intro hp
                        refine W_assign rfl rfl ?_
                        refine W_nil ?_
                        refine N_then_k ?_
                        refine K_ret ?_
                        refine N_done1 (.inr rfl) rfl rfl ?_
                        refine ⟨_, rfl, ?_, hp.nil⟩
                        first
                          | (rw [List.eq_nil_of_length_eq_zero h2]; rfl)
                          | (have := joinB_one (sep := sep) hx; rw [List.take_of_length_le (by omega)] at this; rw [this])
                          | (rw [List.take_of_length_le (by omega)])))))))))

end Go.Proofs.YtjmfjdmpbkdceaaDoor
