/-
  The reference implementation of package base64, walked: decoding.
-/
import Derived.Test.YtbdmaiipohfnaaaDoorB64S
namespace Go.Proofs.YtbdmaiipohfnaaaDoor
open Go.Sx Go.RowKit
set_option linter.unusedVariables false
set_option linter.unusedSimpArgs false
set_option maxRecDepth 100000

theorem ref_end {vs : List Nat} {ob : List UInt8} {j : Nat} (hv : ∀ v ∈ vs, v < 64) (h1 : cat 8 (nums ob) = (cat 6 vs).take (8 * j)) (h2 : (cat 6 vs).length < 8 * j + 8) : (accD vs).2 = (ob, numL ((cat 6 vs).drop (8 * j))) := by
  obtain ⟨_, h4, h5⟩ := accD_inv vs hv
  have e : cat 8 (nums (accD vs).2.1) ++ bitsN (leftB vs.length) (accD vs).2.2 = cat 8 (nums ob) ++ (cat 6 vs).drop (8 * j) := by rw [h1, List.take_append_drop, h5]
  obtain ⟨e1, e2⟩ := cat_inj (k := 8) (by decide) (nums_lt _) (nums_lt _) (by rw [bitsN_length]; have := leftB_le vs.length; omega) (by simp; omega) e
  rw [← nums_inj e1, ← e2, numL_bits, Nat.mod_eq_of_lt h4]
theorem ref_step {vs : List Nat} {ob : List UInt8} {j : Nat} (h1 : cat 8 (nums ob) = (cat 6 vs).take (8 * j)) (h2 : 8 * j + 8 ≤ (cat 6 vs).length) : numL (((cat 6 vs).drop (8 * j)).take 8) < 256 ∧
    cat 8 (nums (ob ++ [UInt8.ofNat (numL (((cat 6 vs).drop (8 * j)).take 8))])) = (cat 6 vs).take (8 * (j + 1)) := by
  have hl : (((cat 6 vs).drop (8 * j)).take 8).length = 8 := by simp; omega
  have hb : ∀ b ∈ ((cat 6 vs).drop (8 * j)).take 8, b < 2 := fun b hb => cat_lt 6 vs b (List.mem_of_mem_drop (List.mem_of_mem_take hb))
  have h3 := numL_lt hb
  rw [hl] at h3
  have h4 := bitsN_numL hb
  rw [hl] at h4
  refine ⟨h3, ?_⟩
  have e : (UInt8.ofNat (numL (((cat 6 vs).drop (8 * j)).take 8))).toNat = numL (((cat 6 vs).drop (8 * j)).take 8) := by rw [UInt8.toNat_ofNat']; omega
  rw [show nums (ob ++ [UInt8.ofNat (numL (((cat 6 vs).drop (8 * j)).take 8))]) = nums ob ++ [(UInt8.ofNat (numL (((cat 6 vs).drop (8 * j)).take 8))).toNat] by simp [nums], cat_append, e, h1]
  show _ ++ (bitsN 8 _ ++ []) = _
  rw [List.append_nil, h4, Nat.mul_succ, ← List.take_add]
/-- What the reference implementation's Decode returns. -/
def rdecR (s : List UInt8) (v : Value) (G : Heap) : Prop := ∃ bv, v = .tuple #[bv, .int .i64 (dec64 s).2] ∧ OSb 5 bv (dec64 s).1 G
theorem rdecR_err {s : List UInt8} {n : Int} (h : dec64 s = ([], n)) : rdecR s (.tuple #[.slice none 0 0, .int .i64 n]) [] := ⟨_, by rw [h], by rw [h]; exact OSb.nil⟩
theorem rdecR_ok {s a : List UInt8} {v : Value} {G : Heap} (h : dec64 s = (a, -1)) (hos : OSb 5 v a G) : rdecR s (.tuple #[v, .int .i64 (-1)]) G := ⟨v, by rw [h], by rw [h]; exact hos⟩
theorem rdecR_of {s a : List UInt8} {v : Value} {G : Heap} {n : Int} (hr : rdecR s v G) (h : dec64 s = (a, n)) : ∃ bv, v = .tuple #[bv, .int .i64 n] ∧ OSb 5 bv a G := by
  obtain ⟨bv, rfl, hos⟩ := hr
  rw [h] at hos ⊢
  exact ⟨bv, rfl, hos⟩

set_option maxHeartbeats 1000000 in
theorem rdecode_spec (w0 : World) (s : List UInt8) (hl : s.length ≤ 10000) : RetB Tryd.prog 21 [.string ⟨s.toArray⟩] (fun v G => rdecR s v G) w0 := by
  have hpl := pads2_le s
  refine RetB.intro go21 Tryd.func21 rfl rfl fun hp => ?_
  refine (fun (hk : ∀ w, Hp w0 [] [] w → K _ _ _ _ _ w) => hk w0 hp) fun w hp => ?_
  refine K_seq ?_
  refine K_region ?_
  refine W_assign rfl rfl ?_
  refine W_assign rfl rfl ?_
  refine W_nil ?_
  refine N_then_k ?_
  refine K_seq ?_
  refine K_region ?_
  refine W_move rfl rfl ?_
  refine W_len_s Tryd.underlying9 rfl rfl ?_
  refine W_assign rfl rfl ?_
  refine W_nil ?_
  refine N_then_k ?_
  refine K_seq ?_
  refine K_seq ?_
  refine K_region ?_
  rcases Decidable.em (s.length % 4 = 0) with h4 | h4
  all_goals (
   refine W_move rfl rfl ?_
   first
     | (refine W_rem rfl rfl ?_ (rem_nn ?_) rfl ?_; (focus (omega)); (focus (omega)))
     | (refine W_rem rfl rfl ?_ rfl rfl ?_; (focus (omega)))
   first
     | (refine W_neq_t rfl rfl ?_ rfl ?_; (focus (omega)))
     | (refine W_neq_f rfl rfl ?_ rfl ?_; (focus (omega)))
     | (refine W_neq rfl rfl rfl ?_)
   refine W_nil ?_
   refine N_then_k ?_
   first
     | refine K_cond_d rfl (fun hc1 => ?_) (fun hc1 => ?_)
     | refine K_cond_n rfl (fun hc1 => ?_) (fun hc1 => ?_)
     | refine K_cond_nb rfl (fun hc1 => ?_) (fun hc1 => ?_)
     | refine K_cond_t rfl (fun hc1 => ?_) (fun hc1 => ?_)
   · try (exfalso; first | omega | (simp only [Bool.false_eq_true, reduceCtorEq] at hc1; done) | (refine absurd hc1 ?_; with_reducible assumption) | (refine absurd ?_ hc1; with_reducible assumption))
     all_goals (
      refine K_seq ?_
      refine K_region ?_
      refine W_move rfl rfl ?_
      refine W_assign rfl rfl ?_
      refine W_assign rfl rfl ?_
      refine W_nil ?_
      refine N_then_k ?_
      refine K_ret ?_
      refine N_then_ret ?_
      refine N_done2 (.inr rfl) rfl rfl rfl ?_
      first
        | exact ⟨_, rfl, [], hp.nil, rdecR_err (dec_len h4)⟩
        | exact ⟨_, rfl, [], hp.nil, rdecR_err (dec_bad h4 hlt hc hn hv)⟩
        | (obtain ⟨e1, e2⟩ := dec_bits h4 he hn hq (by omega)
           exact ⟨_, rfl, [], hp.nil, rdecR_err e1⟩)
        | exact ⟨_, rfl, Hs, hp.drop (List.sublist_append_left _ _), rdecR_ok (dec_fine h4 he hn hq (by omega)) hos⟩)
   · try (exfalso; first | omega | (simp only [Bool.false_eq_true, reduceCtorEq] at hc1; done) | (refine absurd hc1 ?_; with_reducible assumption) | (refine absurd ?_ hc1; with_reducible assumption))
     all_goals (
      refine K_skip ?_
      refine N_then_k ?_
      refine K_seq ?_
      refine K_region ?_
      refine W_move rfl rfl ?_
      refine W_assign rfl rfl ?_
      refine W_nil ?_
      refine N_then_k ?_
      refine K_mid (σ := Int) [5, 16, 17, 18, 19, 20, 21, 22, 23, 24, 25, 26]
          (fun e => [(5, .int .i64 e)])
          (fun e w => Hp w0 [] [] w ∧ ((e = (s.length : Int) ∧ pads2 s = 0) ∨ (e = (s.length : Int) - 1 ∧ 1 ≤ pads2 s))) ?_ ?_
      · refine K_seq ?_
        refine K_region ?_
        rcases last_cases s with ⟨hz, hp0⟩ | ⟨c, hc, hpos, ⟨hc1', hp0⟩ | ⟨hc1', ⟨hz1, hp0⟩ | ⟨d, h2, hd, ⟨hd1, hp0⟩ | ⟨hd1, hp0⟩⟩⟩⟩
        all_goals (
         refine W_move rfl rfl ?_
         first
           | (refine W_gtr_t rfl rfl ?_ rfl ?_; (focus (omega)))
           | (refine W_gtr_f rfl rfl ?_ rfl ?_; (focus (omega)))
           | (refine W_gtr rfl rfl rfl ?_)
         refine W_move rfl rfl ?_
         first
           | refine W_guard_lit_t rfl ?_
           | refine W_guard_lit_f rfl ?_
           | refine W_guard_lit_u rfl ?_
           | refine W_guard_split_d rfl rfl rfl (fun hg2 => ?_) (fun hg2 => ?_)
           | refine W_guard_split_n rfl rfl rfl (fun hg2 => ?_) (fun hg2 => ?_)
           | refine W_guard_split_nb rfl rfl rfl (fun hg2 => ?_) (fun hg2 => ?_)
           | refine W_guard_split rfl rfl rfl (fun hg2 => ?_) (fun hg2 => ?_)
         all_goals try (exfalso; first | omega | (simp only [Bool.false_eq_true, reduceCtorEq] at hg2; done) | (refine absurd hg2 ?_; with_reducible assumption) | (refine absurd ?_ hg2; with_reducible assumption))
         all_goals (
          first
            | (iterate 5 refine W_guard_no rfl rfl rfl ?_)
            | (iterate 5 refine W_guard_un rfl rfl ?_)
            | (refine W_guard_yes rfl ?_
               refine W_move rfl rfl ?_
               refine W_guard_yes rfl ?_
               refine W_move rfl rfl ?_
               refine W_guard_yes rfl ?_
               first
                 | (refine W_sub rfl rfl (wr_i64 ?_) rfl ?_; (focus (omega)))
                 | (refine W_sub rfl rfl rfl rfl ?_)
               refine W_guard_yes rfl ?_
               refine W_index_s Tryd.underlying9 rfl rfl ?_ (by first | with_reducible assumption | assumption | exact rfl | exact idx_getD (by first | omega | (simp; omega))) rfl ?_
               (focus (omega))
               refine W_guard_yes rfl ?_
               first
                 | (refine W_eql_t rfl rfl ?_ rfl ?_; (focus (omega)))
                 | (refine W_eql_f rfl rfl ?_ rfl ?_; (focus (omega)))
                 | (refine W_eql rfl rfl rfl ?_))
          first
            | (refine W_pick_t rfl rfl rfl ?_)
            | (refine W_pick_f rfl rfl rfl ?_)
            | (refine W_pick_b rfl rfl rfl rfl ?_)
          refine W_nil ?_
          refine N_then_k ?_
          first
            | refine K_cond_d rfl (fun hc3 => ?_) (fun hc3 => ?_)
            | refine K_cond_n rfl (fun hc3 => ?_) (fun hc3 => ?_)
            | refine K_cond_nb rfl (fun hc3 => ?_) (fun hc3 => ?_)
            | refine K_cond_t rfl (fun hc3 => ?_) (fun hc3 => ?_)
          · try (exfalso; first | omega | (simp only [Bool.false_eq_true, reduceCtorEq] at hc3; done) | (refine absurd hc3 ?_; with_reducible assumption) | (refine absurd ?_ hc3; with_reducible assumption))
            all_goals (
             refine K_region ?_
             refine W_move rfl rfl ?_
             first
               | (refine W_sub rfl rfl (wr_i64 ?_) rfl ?_; (focus (omega)))
               | (refine W_sub rfl rfl rfl rfl ?_)
             refine W_assign rfl rfl ?_
             refine W_nil ?_
             first
               | (refine N_mid (s.length : Int) (sub_end ?_ ?_) ⟨hp, .inl ⟨rfl, by omega⟩⟩
                  · repeat' (first | exact sub_lst_nil (sub_nil _) | refine sub_lst rfl ?_ | (refine sub_lst_eq rfl ?_ ?_; · first | rfl | (simp; done) | (congr 1; omega)))
                  · repeat' (first | exact sub_refl _ | exact sub_strip _ _ | refine sub_s_cons rfl ?_ | refine sub_s_lst rfl ?_ | refine sub_s_strip rfl ?_)
                  all_goals skip)
               | (refine N_mid ((s.length : Int) - 1) (sub_end ?_ ?_) ⟨hp, .inr ⟨rfl, by omega⟩⟩
                  · repeat' (first | exact sub_lst_nil (sub_nil _) | refine sub_lst rfl ?_ | (refine sub_lst_eq rfl ?_ ?_; · first | rfl | (simp; done) | (congr 1; omega)))
                  · repeat' (first | exact sub_refl _ | exact sub_strip _ _ | refine sub_s_cons rfl ?_ | refine sub_s_lst rfl ?_ | refine sub_s_strip rfl ?_)
                  all_goals skip))
          · try (exfalso; first | omega | (simp only [Bool.false_eq_true, reduceCtorEq] at hc3; done) | (refine absurd hc3 ?_; with_reducible assumption) | (refine absurd ?_ hc3; with_reducible assumption))
            all_goals (
             refine K_skip ?_
             first
               | (refine N_mid (s.length : Int) (sub_end ?_ ?_) ⟨hp, .inl ⟨rfl, by omega⟩⟩
                  · repeat' (first | exact sub_lst_nil (sub_nil _) | refine sub_lst rfl ?_ | (refine sub_lst_eq rfl ?_ ?_; · first | rfl | (simp; done) | (congr 1; omega)))
                  · repeat' (first | exact sub_refl _ | exact sub_strip _ _ | refine sub_s_cons rfl ?_ | refine sub_s_lst rfl ?_ | refine sub_s_strip rfl ?_)
                  all_goals skip)
               | (refine N_mid ((s.length : Int) - 1) (sub_end ?_ ?_) ⟨hp, .inr ⟨rfl, by omega⟩⟩
                  · repeat' (first | exact sub_lst_nil (sub_nil _) | refine sub_lst rfl ?_ | (refine sub_lst_eq rfl ?_ ?_; · first | rfl | (simp; done) | (congr 1; omega)))
                  · repeat' (first | exact sub_refl _ | exact sub_strip _ _ | refine sub_s_cons rfl ?_ | refine sub_s_lst rfl ?_ | refine sub_s_strip rfl ?_)
                  all_goals skip))))
      · intro e w hJ
        have hp := hJ.1
        have hE := hJ.2
        refine K_mid (σ := Unit) [5, 27, 28, 29, 30, 31, 32, 33, 34, 35, 36, 37, 38, 39, 40, 41, 42, 43]
            (fun _ => [(5, .int .i64 ((s.length : Int) - pads2 s))])
            (fun _ w => Hp w0 [] [] w) ?_ ?_
        · refine K_seq ?_
          refine K_region ?_
          rcases hE with ⟨rfl, hp0⟩ | ⟨rfl, hp1⟩
          all_goals rcases last_cases s with ⟨hz, hp0⟩ | ⟨c, hc, hpos, ⟨hc1', hp0⟩ | ⟨hc1', ⟨hz1, hp0⟩ | ⟨d, h2, hd, ⟨hd1, hp0⟩ | ⟨hd1, hp0⟩⟩⟩⟩
          all_goals try (exfalso; omega)
          all_goals (
           refine W_move rfl rfl ?_
           first
             | (refine W_gtr_t rfl rfl ?_ rfl ?_; (focus (omega)))
             | (refine W_gtr_f rfl rfl ?_ rfl ?_; (focus (omega)))
             | (refine W_gtr rfl rfl rfl ?_)
           refine W_move rfl rfl ?_
           first
             | refine W_guard_lit_t rfl ?_
             | refine W_guard_lit_f rfl ?_
             | refine W_guard_lit_u rfl ?_
             | refine W_guard_split_d rfl rfl rfl (fun hg4 => ?_) (fun hg4 => ?_)
             | refine W_guard_split_n rfl rfl rfl (fun hg4 => ?_) (fun hg4 => ?_)
             | refine W_guard_split_nb rfl rfl rfl (fun hg4 => ?_) (fun hg4 => ?_)
             | refine W_guard_split rfl rfl rfl (fun hg4 => ?_) (fun hg4 => ?_)
           all_goals try (exfalso; first | omega | (simp only [Bool.false_eq_true, reduceCtorEq] at hg4; done) | (refine absurd hg4 ?_; with_reducible assumption) | (refine absurd ?_ hg4; with_reducible assumption))
           all_goals (
            first
              | (iterate 4 refine W_guard_no rfl rfl rfl ?_)
              | (iterate 4 refine W_guard_un rfl rfl ?_)
              | (refine W_guard_yes rfl ?_
                 refine W_move rfl rfl ?_
                 refine W_guard_yes rfl ?_
                 refine W_move rfl rfl ?_
                 refine W_guard_yes rfl ?_
                 first
                   | (refine W_sub rfl rfl (wr_i64 ?_) rfl ?_; (focus (omega)))
                   | (refine W_sub rfl rfl rfl rfl ?_)
                 refine W_guard_yes rfl ?_
                 first
                   | (refine W_eql_t rfl rfl ?_ rfl ?_; (focus (omega)))
                   | (refine W_eql_f rfl rfl ?_ rfl ?_; (focus (omega)))
                   | (refine W_eql rfl rfl rfl ?_))
            first
              | (refine W_pick_t rfl rfl rfl ?_)
              | (refine W_pick_f rfl rfl rfl ?_)
              | (refine W_pick_b rfl rfl rfl rfl ?_)
            refine W_move rfl rfl ?_
            first
              | refine W_guard_lit_t rfl ?_
              | refine W_guard_lit_f rfl ?_
              | refine W_guard_lit_u rfl ?_
              | refine W_guard_split_d rfl rfl rfl (fun hg5 => ?_) (fun hg5 => ?_)
              | refine W_guard_split_n rfl rfl rfl (fun hg5 => ?_) (fun hg5 => ?_)
              | refine W_guard_split_nb rfl rfl rfl (fun hg5 => ?_) (fun hg5 => ?_)
              | refine W_guard_split rfl rfl rfl (fun hg5 => ?_) (fun hg5 => ?_)
            all_goals try (exfalso; first | omega | (simp only [Bool.false_eq_true, reduceCtorEq] at hg5; done) | (refine absurd hg5 ?_; with_reducible assumption) | (refine absurd ?_ hg5; with_reducible assumption))
            all_goals (
             first
               | (iterate 5 refine W_guard_no rfl rfl rfl ?_)
               | (iterate 5 refine W_guard_un rfl rfl ?_)
               | (refine W_guard_yes rfl ?_
                  refine W_move rfl rfl ?_
                  refine W_guard_yes rfl ?_
                  refine W_move rfl rfl ?_
                  refine W_guard_yes rfl ?_
                  first
                    | (refine W_sub rfl rfl (wr_i64 ?_) rfl ?_; (focus (omega)))
                    | (refine W_sub rfl rfl rfl rfl ?_)
                  refine W_guard_yes rfl ?_
                  refine W_index_s Tryd.underlying9 rfl rfl ?_ (by first | with_reducible assumption | assumption | exact rfl | exact idx_getD (by first | omega | (simp; omega))) rfl ?_
                  (focus (omega))
                  refine W_guard_yes rfl ?_
                  first
                    | (refine W_eql_t rfl rfl ?_ rfl ?_; (focus (omega)))
                    | (refine W_eql_f rfl rfl ?_ rfl ?_; (focus (omega)))
                    | (refine W_eql rfl rfl rfl ?_))
             first
               | (refine W_pick_t rfl rfl rfl ?_)
               | (refine W_pick_f rfl rfl rfl ?_)
               | (refine W_pick_b rfl rfl rfl rfl ?_)
             refine W_nil ?_
             refine N_then_k ?_
             first
               | refine K_cond_d rfl (fun hc6 => ?_) (fun hc6 => ?_)
               | refine K_cond_n rfl (fun hc6 => ?_) (fun hc6 => ?_)
               | refine K_cond_nb rfl (fun hc6 => ?_) (fun hc6 => ?_)
               | refine K_cond_t rfl (fun hc6 => ?_) (fun hc6 => ?_)
             · try (exfalso; first | omega | (simp only [Bool.false_eq_true, reduceCtorEq] at hc6; done) | (refine absurd hc6 ?_; with_reducible assumption) | (refine absurd ?_ hc6; with_reducible assumption))
               all_goals (
                refine K_region ?_
                refine W_move rfl rfl ?_
                first
                  | (refine W_sub rfl rfl (wr_i64 ?_) rfl ?_; (focus (omega)))
                  | (refine W_sub rfl rfl rfl rfl ?_)
                refine W_assign rfl rfl ?_
                refine W_nil ?_
                refine N_mid (()) (sub_end ?_ ?_) ?_
                · repeat' (first | exact sub_lst_nil (sub_nil _) | refine sub_lst rfl ?_ | (refine sub_lst_eq rfl ?_ ?_; · first | rfl | ((refine congrArg (Value.int .i64) ?_; omega)) | (simp; done) | (congr 1; omega)))
                · repeat' (first | exact sub_refl _ | exact sub_strip _ _ | refine sub_s_cons rfl ?_ | refine sub_s_lst rfl ?_ | refine sub_s_strip rfl ?_)
                · exact hp)
             · try (exfalso; first | omega | (simp only [Bool.false_eq_true, reduceCtorEq] at hc6; done) | (refine absurd hc6 ?_; with_reducible assumption) | (refine absurd ?_ hc6; with_reducible assumption))
               all_goals (
                refine K_skip ?_
                refine N_mid (()) (sub_end ?_ ?_) ?_
                · repeat' (first | exact sub_lst_nil (sub_nil _) | refine sub_lst rfl ?_ | (refine sub_lst_eq rfl ?_ ?_; · first | rfl | ((refine congrArg (Value.int .i64) ?_; omega)) | (simp; done) | (congr 1; omega)))
                · repeat' (first | exact sub_refl _ | exact sub_strip _ _ | refine sub_s_cons rfl ?_ | refine sub_s_lst rfl ?_ | refine sub_s_strip rfl ?_)
                · exact hp))))
        · intro _ w hJ
          have hp := hJ
          refine K_seq ?_
          refine K_region ?_
          refine W_assign rfl rfl ?_
          refine W_nil ?_
          refine N_then_k ?_
          refine K_seq ?_
          refine K_seq ?_
          refine K_region ?_
          refine W_assign rfl rfl ?_
          refine W_nil ?_
          refine N_then_k ?_
          refine K_block ?_
          refine K_loop (σ := Nat × Value × Heap) [2, 3, 6, 7, 44, 45, 46, 47, 48, 49, 50, 51, 52, 53, 54, 55, 56, 57, 58, 59, 60, 61]
              (fun q => [(7, .int .i64 q.1), (6, q.2.1)])
              (fun q w => OSi 3 q.2.1 (cat 6 (vN (s.take q.1))) q.2.2 ∧ Hp w0 [] q.2.2 w ∧ q.1 ≤ s.length - pads2 s ∧ ∀ x ∈ s.take q.1, 0 ≤ v64 x)
              (fun q => s.length - q.1) ((0, .slice none 0 0, [])) ?_ ?_ ?_
          · repeat' (first | exact sub_lst_nil (sub_nil _) | refine sub_lst rfl ?_ | (refine sub_lst_eq rfl ?_ ?_; · first | rfl | (simp; done) | (congr 1; omega)))
          · exact ⟨OSi.nil, hp, Nat.zero_le _, by simp⟩
          · intro ⟨k, v, Hs⟩ w hJ
            clear hp
            obtain ⟨hos, hp, hle, hn⟩ := hJ
            simp only at hos hp hle hn
            change K _ _ _ _ (.lst ([(7, .int .i64 k), (6, v)]) _) _
            obtain ⟨Av, cv, rfl⟩ := hos.form
            rcases Nat.lt_or_ge k (s.length - pads2 s) with hlt | hge
            all_goals (
             refine K_seq ?_
             refine K_seq ?_
             refine K_region ?_
             refine W_move rfl rfl ?_
             refine W_move rfl rfl ?_
             first
               | (refine W_lss_t rfl rfl ?_ rfl ?_; (focus (omega)))
               | (refine W_lss_f rfl rfl ?_ rfl ?_; (focus (omega)))
               | (refine W_lss rfl rfl rfl ?_)
             refine W_nil ?_
             refine N_then_k ?_
             first
               | refine K_cond_d rfl (fun hc7 => ?_) (fun hc7 => ?_)
               | refine K_cond_n rfl (fun hc7 => ?_) (fun hc7 => ?_)
               | refine K_cond_nb rfl (fun hc7 => ?_) (fun hc7 => ?_)
               | refine K_cond_t rfl (fun hc7 => ?_) (fun hc7 => ?_)
             · try (exfalso; first | omega | (simp only [Bool.false_eq_true, reduceCtorEq] at hc7; done) | (refine absurd hc7 ?_; with_reducible assumption) | (refine absurd ?_ hc7; with_reducible assumption))
               all_goals (
                refine K_skip ?_
                refine N_then_k ?_
                refine K_seq ?_
                refine K_block ?_
                refine K_seq ?_
                refine K_seq ?_
                refine K_region ?_
                obtain ⟨c, hc⟩ : ∃ c, s[k]? = some c := ⟨_, List.getElem?_eq_getElem (by omega)⟩
                have hvr := v64_range c
                rcases Int.lt_or_le (v64 c) 0 with hv | hv
                all_goals (
                 refine W_move rfl rfl ?_
                 refine W_move rfl rfl ?_
                 refine W_index_s Tryd.underlying9 rfl rfl ?_ (by first | with_reducible assumption | assumption | exact rfl | exact idx_getD (by first | omega | (simp; omega))) rfl ?_
                 (focus (omega))
                 refine W_pcall hp rfl (value_spec c) rfl ?_
                 clear hp; intro w hp
                 first
                   | (refine W_lss_t rfl rfl ?_ rfl ?_; (focus (omega)))
                   | (refine W_lss_f rfl rfl ?_ rfl ?_; (focus (omega)))
                   | (refine W_lss rfl rfl rfl ?_)
                 refine W_nil ?_
                 refine N_then_k ?_
                 first
                   | refine K_cond_d rfl (fun hc8 => ?_) (fun hc8 => ?_)
                   | refine K_cond_n rfl (fun hc8 => ?_) (fun hc8 => ?_)
                   | refine K_cond_nb rfl (fun hc8 => ?_) (fun hc8 => ?_)
                   | refine K_cond_t rfl (fun hc8 => ?_) (fun hc8 => ?_)
                 · try (exfalso; first | omega | (simp only [Bool.false_eq_true, reduceCtorEq] at hc8; done) | (refine absurd hc8 ?_; with_reducible assumption) | (refine absurd ?_ hc8; with_reducible assumption))
                   all_goals (
                    refine K_seq ?_
                    refine K_region ?_
                    refine W_move rfl rfl ?_
                    refine W_assign rfl rfl ?_
                    refine W_assign rfl rfl ?_
                    refine W_nil ?_
                    refine N_then_k ?_
                    refine K_ret ?_
                    refine N_then_ret ?_
                    refine N_block_ret ?_
                    refine N_then_ret ?_
                    refine N_then_ret ?_
                    refine N_block_ret ?_
                    refine N_then_ret ?_
                    refine N_done2 (.inr rfl) rfl rfl rfl ?_
                    first
                      | exact ⟨_, rfl, [], hp.nil, rdecR_err (dec_len h4)⟩
                      | exact ⟨_, rfl, [], hp.nil, rdecR_err (dec_bad h4 hlt hc hn hv)⟩
                      | (obtain ⟨e1, e2⟩ := dec_bits h4 he hn hq (by omega)
                         exact ⟨_, rfl, [], hp.nil, rdecR_err e1⟩)
                      | exact ⟨_, rfl, Hs, hp.drop (List.sublist_append_left _ _), rdecR_ok (dec_fine h4 he hn hq (by omega)) hos⟩)
                 · try (exfalso; first | omega | (simp only [Bool.false_eq_true, reduceCtorEq] at hc8; done) | (refine absurd hc8 ?_; with_reducible assumption) | (refine absurd ?_ hc8; with_reducible assumption))
                   all_goals (
                    refine K_skip ?_
                    refine N_then_k ?_
                    refine K_region ?_
                    have hcl : (cat 6 (vN (s.take k))).length ≤ 60000 := by rw [cat_length]; simp [vN]; omega
                    have hvt := vN_take hc
                    refine W_move rfl rfl ?_
                    refine W_move rfl rfl ?_
                    refine W_move rfl rfl ?_
                    refine W_index_s Tryd.underlying9 rfl rfl ?_ (by first | with_reducible assumption | assumption | exact rfl | exact idx_getD (by first | omega | (simp; omega))) rfl ?_
                    (focus (omega))
                    refine W_pcall hp rfl ((value_spec c).eq (congrArg (Value.int .i64) (Int.toNat_of_nonneg hv).symm)) rfl ?_
                    clear hp; intro w hp
                    refine W_bcall hp rfl (bits_spec w (v64 c).toNat 6 (by omega) (by decide)) rfl ?_
                    clear hp; intro v60 G60 w r60 hp
                    obtain ⟨A60, c60, rfl⟩ := r60.form
                    try simp only [List.append_nil] at hp
                    rw [← List.append_nil Hs] at hp
                    refine W_append_sl (A := G60) (B := []) (intsV (bitsN 6 (v64 c).toNat)) rfl hp rfl Tryd.underlying85 sz3 pb3 zv3 rfl rfl rfl rfl hos (r60.rd (A := []) (B := Hs) (by simpa using hp)) ?_ ?_ ?_ ?_ rfl ?_
                    · simp [intsV_length]
                    · exact intsV_one
                    · (simp only [maxLen, bitsN_length]; omega)
                    · (simp only [bitsN_length]; omega)
                    clear hp; intro va61 Hs w hos hp
                    replace hos := OSi.app rfl rfl hos
                    obtain ⟨Aa61, ca61, rfl⟩ := hos.form
                    refine W_assign rfl rfl ?_
                    refine W_nil ?_
                    refine N_block_normal ?_
                    refine N_then_k ?_
                    refine K_region ?_
                    refine W_move rfl rfl ?_
                    first
                      | (refine W_add rfl rfl (wr_i64 ?_) rfl ?_; (focus (omega)))
                      | (refine W_add rfl rfl rfl rfl ?_)
                    refine W_assign rfl rfl ?_
                    refine W_nil ?_
                    refine N_again (k + 1, _, Hs) (sub_end ?_ ?_) ⟨by show OSi _ _ (cat 6 (vN (s.take (k + 1)))) _; rw [hvt, cat_append, show cat 6 [(v64 c).toNat] = bitsN 6 (v64 c).toNat by simp [cat]]; exact hos, by simpa using hp.drop (List.sublist_append_right _ _), hlt, take_ok64 hc hn hv⟩ ?_
                    · repeat' (first | exact sub_lst_nil (sub_nil _) | refine sub_lst rfl ?_ | (refine sub_lst_eq rfl ?_ ?_; · first | rfl | (simp; done) | (congr 1; omega)))
                    · repeat' (first | exact sub_refl _ | exact sub_strip _ _ | refine sub_s_cons rfl ?_ | refine sub_s_lst rfl ?_ | refine sub_s_strip rfl ?_)
                    · show _ < _; simp only; omega)))
             · try (exfalso; first | omega | (simp only [Bool.false_eq_true, reduceCtorEq] at hc7; done) | (refine absurd hc7 ?_; with_reducible assumption) | (refine absurd ?_ hc7; with_reducible assumption))
               all_goals (
                refine K_exit ?_
                refine N_then_exit ?_
                refine N_then_exit ?_
                refine N_block_exit ?_
                refine N_then_k ?_
                refine K_seq ?_
                obtain ⟨e, he⟩ : ∃ e, e = s.length - pads2 s := ⟨_, rfl⟩
                obtain rfl : k = e := by omega
                have hos3 := hos
                have hroom := OS.room hos
                clear hos
                revert hos3 hp
                generalize Hs = Hs3
                intro hp hos3
                have hN : (cat 6 (vN (s.take k))).length ≤ 60000 := by rw [cat_length]; simp [vN]; omega
                refine K_region ?_
                refine W_assign rfl rfl ?_
                refine W_nil ?_
                refine N_then_k ?_
                refine K_seq ?_
                refine K_block ?_
                refine K_loop (σ := Nat × Option Addr × Nat × List UInt8 × Value × Heap) [6, 8, 62, 63, 64, 65, 66, 67, 68, 69, 70, 71, 72, 73]
                    (fun q => [(6, .slice q.2.1 ((cat 6 (vN (s.take k))).length - 8 * q.1) q.2.2.1), (8, q.2.2.2.2.1)])
                    (fun q w => OSb 5 q.2.2.2.2.1 q.2.2.2.1 q.2.2.2.2.2 ∧ Hp w0 [] (q.2.2.2.2.2 ++ Hs3) w ∧ (∀ w1, (∃ F', Hp w0 [] (F' ++ Hs3) w1) → Rd w1 (.slice q.2.1 ((cat 6 (vN (s.take k))).length - 8 * q.1) q.2.2.1) ((cat 6 (vN (s.take k))).length - 8 * q.1) (intsV ((cat 6 (vN (s.take k))).drop (8 * q.1)))) ∧ (cat 6 (vN (s.take k))).length - 8 * q.1 ≤ q.2.2.1 ∧ 8 * q.1 ≤ (cat 6 (vN (s.take k))).length ∧ cat 8 (nums q.2.2.2.1) = (cat 6 (vN (s.take k))).take (8 * q.1) ∧ q.2.2.2.1.length = q.1)
                    (fun q => (cat 6 (vN (s.take k))).length - 8 * q.1) ((0, Av, cv, [], .slice none 0 0, [])) ?_ ?_ ?_
                · repeat' (first | exact sub_lst_nil (sub_nil _) | refine sub_lst rfl ?_)
                · exact ⟨OSb.nil, hp, fun w1 ⟨F', h⟩ => by simpa using hos3.rd (A := F') (B := []) (by simpa using h), by simpa using hroom, Nat.zero_le _, rfl, rfl⟩
                · intro ⟨j, A, cp, ob, v, Hs⟩ w hJ
                  clear hp
                  obtain ⟨hos, hp, hrd, hcp, hle, hob, hobl⟩ := hJ
                  simp only at hos hp hrd hcp hle hob hobl
                  change K _ _ _ _ (.lst ([(6, .slice A ((cat 6 (vN (s.take k))).length - 8 * j) cp), (8, v)]) _) _
                  obtain ⟨Av2, cv2, rfl⟩ := hos.form
                  rcases Nat.lt_or_ge (cat 6 (vN (s.take k))).length (8 * j + 8) with hge2 | hlt2
                  all_goals (
                   refine K_seq ?_
                   refine K_seq ?_
                   refine K_region ?_
                   refine W_move rfl rfl ?_
                   refine W_len_sl Tryd.underlying85 rfl rfl ?_
                   first
                     | (refine W_geq_t rfl rfl ?_ rfl ?_; (focus (omega)))
                     | (refine W_geq_f rfl rfl ?_ rfl ?_; (focus (omega)))
                     | (refine W_geq rfl rfl rfl ?_)
                   refine W_nil ?_
                   refine N_then_k ?_
                   first
                     | refine K_cond_d rfl (fun hc9 => ?_) (fun hc9 => ?_)
                     | refine K_cond_n rfl (fun hc9 => ?_) (fun hc9 => ?_)
                     | refine K_cond_nb rfl (fun hc9 => ?_) (fun hc9 => ?_)
                     | refine K_cond_t rfl (fun hc9 => ?_) (fun hc9 => ?_)
                   · try (exfalso; first | omega | (simp only [Bool.false_eq_true, reduceCtorEq] at hc9; done) | (refine absurd hc9 ?_; with_reducible assumption) | (refine absurd ?_ hc9; with_reducible assumption))
                     all_goals (
                      refine K_skip ?_
                      refine N_then_k ?_
                      refine K_block ?_
                      refine K_seq ?_
                      refine K_region ?_
                      obtain ⟨hn256, hst⟩ := ref_step hob (by omega)
                      have hnu : (UInt8.ofNat (numL (((cat 6 (vN (s.take k))).drop (8 * j)).take 8))).toNat = numL (((cat 6 (vN (s.take k))).drop (8 * j)).take 8) := by rw [UInt8.toNat_ofNat']; omega
                      have hl8 : (((cat 6 (vN (s.take k))).drop (8 * j)).take 8).length = 8 := by simp; omega
                      have hb8 : ∀ b ∈ ((cat 6 (vN (s.take k))).drop (8 * j)).take 8, b < 2 := fun b hb => cat_lt 6 _ b (List.mem_of_mem_drop (List.mem_of_mem_take hb))
                      refine W_move rfl rfl ?_
                      refine W_move rfl rfl ?_
                      refine W_cut_h (m := 8) (s := 1) (hrd w ⟨Hs, hp⟩) hcp Tryd.underlying85 sz3 rfl rfl rfl (by omega) rfl ?_
                      intro hr8
                      refine W_acall hp rfl (number_spec w (((cat 6 (vN (s.take k))).drop (8 * j)).take 8) _ _ _ hl8.symm (by simpa [intsV] using hr8) (by omega) hb8) rfl ?_
                      clear hp; intro w hp
                      first
                        | (refine W_conv_i Tryd.underlying3 Tryd.underlying5 rfl (wr_u8 ?_) rfl ?_; (focus (first | omega | (have := u8_lt ‹_›; omega))))
                        | (refine W_conv_i Tryd.underlying3 Tryd.underlying5 rfl rfl rfl ?_)
                      refine W_bslice1 (f := fun v => [v]) hp Tryd.underlying42 sz5 zv5 (v0 := .int .u8 ((UInt8.ofNat (numL (((cat 6 (vN (s.take k))).drop (8 * j)).take 8))).toNat : Int)) (congrArg some (congrArg (Value.int .u8) (by omega))) rfl rfl rfl rfl ?_
                      clear hp; intro b70 w hp
                      refine W_append_sl (A := [_]) (B := Hs3) _ rfl hp rfl Tryd.underlying42 sz5 pb5 zv5 rfl rfl rfl rfl hos (Rd.own hp (by first | exact List.mem_cons_self | exact .tail _ (.head _) | exact .tail _ (.tail _ (.head _)) | exact .tail _ (.tail _ (.tail _ (.head _))) | exact .tail _ (.tail _ (.tail _ (.tail _ (.head _)))) | exact .tail _ (.tail _ (.tail _ (.tail _ (.tail _ (.head _))))) | exact List.mem_append_right _ (.head _) | exact List.mem_append_right _ (.tail _ (.head _)) | exact List.mem_append_right _ (.tail _ (.tail _ (.head _))) | exact .tail _ (List.mem_append_right _ (.head _)) | exact .tail _ (List.mem_append_right _ (.tail _ (.head _))) | assumption | (repeat (first | exact List.mem_cons_self | apply List.mem_append_right | apply List.mem_cons_of_mem))) (List.prefix_refl _)) ?_ ?_ ?_ ?_ rfl ?_
                      · rfl
                      · first | (simp [Value.oneCell']; done) | (simp [Value.oneCell', strV]; done)
                      · (simp only [maxLen]; omega)
                      · omega
                      clear hp; intro va71 Hs w hos hp
                      replace hos := OSb.snoc (c := (UInt8.ofNat (numL (((cat 6 (vN (s.take k))).drop (8 * j)).take 8)))) hos
                      obtain ⟨Aa71, ca71, rfl⟩ := hos.form
                      refine W_assign rfl rfl ?_
                      refine W_nil ?_
                      refine N_then_k ?_
                      refine K_region ?_
                      refine W_move rfl rfl ?_
                      refine W_cut_lX (X := (fun w1 => ∃ F', Hp w0 [] (F' ++ Hs3) w1)) (m := 8) (s := 1) hrd (by simp [intsV]) hcp Tryd.underlying85 sz3 rfl rfl rfl (by omega) rfl ?_
                      intro A' c' hc' hrd'
                      refine W_assign rfl rfl ?_
                      refine W_nil ?_
                      refine N_block_normal ?_
                      refine N_again (j + 1, A', c', ob ++ [UInt8.ofNat (numL (((cat 6 (vN (s.take k))).drop (8 * j)).take 8))], _, Hs) (sub_end ?_ ?_) ⟨hos, by simpa using hp.drop (List.sublist_cons_self _ _), ?_, by dsimp only; omega, by dsimp only; omega, hst, by simp [hobl]⟩ ?_
                      · repeat' (first | exact sub_lst_nil (sub_nil _) | refine sub_lst rfl ?_ | (refine sub_lst_eq rfl ?_ ?_; · (dsimp only; rw [show (cat 6 (vN (s.take k))).length - 8 * j - 8 = (cat 6 (vN (s.take k))).length - 8 * (j + 1) by omega])))
                      · repeat' (first | exact sub_refl _ | exact sub_strip _ _ | refine sub_s_cons rfl ?_ | refine sub_s_lst rfl ?_ | refine sub_s_strip rfl ?_)
                      · intro w1 hX; have := hrd' w1 hX; dsimp only; rw [show (cat 6 (vN (s.take k))).length - 8 * (j + 1) = (cat 6 (vN (s.take k))).length - 8 * j - 8 by omega, show 8 * (j + 1) = 8 * j + 8 by omega, ← List.drop_drop]; simpa [intsV] using this
                      · show _ < _; simp only; omega)
                   · try (exfalso; first | omega | (simp only [Bool.false_eq_true, reduceCtorEq] at hc9; done) | (refine absurd hc9 ?_; with_reducible assumption) | (refine absurd ?_ hc9; with_reducible assumption))
                     all_goals (
                      refine K_exit ?_
                      refine N_then_exit ?_
                      refine N_then_exit ?_
                      refine N_block_exit ?_
                      refine N_then_k ?_
                      refine K_seq ?_
                      refine K_seq ?_
                      refine K_region ?_
                      have hq := ref_end (vN_lt _) hob (by omega)
                      have hbd : ∀ b ∈ (cat 6 (vN (s.take k))).drop (8 * j), b < 2 := fun b hb => cat_lt 6 _ b (List.mem_of_mem_drop hb)
                      refine W_move rfl rfl ?_
                      refine W_acall hp rfl ((number_spec w ((cat 6 (vN (s.take k))).drop (8 * j)) _ _ _ (by simp) (hrd w ⟨Hs, hp⟩) (by simp; omega) hbd)) rfl ?_
                      clear hp; intro w hp
                      first
                        | (refine W_neq_t rfl rfl ?_ rfl ?_; (focus (omega)))
                        | (refine W_neq_f rfl rfl ?_ rfl ?_; (focus (omega)))
                        | (refine W_neq rfl rfl rfl ?_)
                      refine W_nil ?_
                      refine N_then_k ?_
                      first
                        | refine K_cond_d rfl (fun hc10 => ?_) (fun hc10 => ?_)
                        | refine K_cond_n rfl (fun hc10 => ?_) (fun hc10 => ?_)
                        | refine K_cond_nb rfl (fun hc10 => ?_) (fun hc10 => ?_)
                        | refine K_cond_t rfl (fun hc10 => ?_) (fun hc10 => ?_)
                      · try (exfalso; first | omega | (simp only [Bool.false_eq_true, reduceCtorEq] at hc10; done) | (refine absurd hc10 ?_; with_reducible assumption) | (refine absurd ?_ hc10; with_reducible assumption))
                        all_goals (
                         refine K_seq ?_
                         refine K_region ?_
                         refine W_move rfl rfl ?_
                         first
                           | (refine W_sub rfl rfl (wr_i64 ?_) rfl ?_; (focus (omega)))
                           | (refine W_sub rfl rfl rfl rfl ?_)
                         refine W_assign rfl rfl ?_
                         refine W_assign rfl rfl ?_
                         refine W_nil ?_
                         refine N_then_k ?_
                         refine K_ret ?_
                         refine N_then_ret ?_
                         refine N_done2 (.inr rfl) rfl rfl rfl ?_
                         first
                           | exact ⟨_, rfl, [], hp.nil, rdecR_err (dec_len h4)⟩
                           | exact ⟨_, rfl, [], hp.nil, rdecR_err (dec_bad h4 hlt hc hn hv)⟩
                           | (obtain ⟨e1, e2⟩ := dec_bits h4 he hn hq (by omega)
                              exact ⟨_, rfl, [], hp.nil, rdecR_err e1⟩)
                           | exact ⟨_, rfl, Hs, hp.drop (List.sublist_append_left _ _), rdecR_ok (dec_fine h4 he hn hq (by omega)) hos⟩)
                      · try (exfalso; first | omega | (simp only [Bool.false_eq_true, reduceCtorEq] at hc10; done) | (refine absurd hc10 ?_; with_reducible assumption) | (refine absurd ?_ hc10; with_reducible assumption))
                        all_goals (
                         refine K_skip ?_
                         refine N_then_k ?_
                         refine K_seq ?_
                         refine K_region ?_
                         refine W_move rfl rfl ?_
                         refine W_assign rfl rfl ?_
                         refine W_assign rfl rfl ?_
                         refine W_nil ?_
                         refine N_then_k ?_
                         refine K_ret ?_
                         refine N_done2 (.inr rfl) rfl rfl rfl ?_
                         first
                           | exact ⟨_, rfl, [], hp.nil, rdecR_err (dec_len h4)⟩
                           | exact ⟨_, rfl, [], hp.nil, rdecR_err (dec_bad h4 hlt hc hn hv)⟩
                           | (obtain ⟨e1, e2⟩ := dec_bits h4 he hn hq (by omega)
                              exact ⟨_, rfl, [], hp.nil, rdecR_err e1⟩)
                           | exact ⟨_, rfl, Hs, hp.drop (List.sublist_append_left _ _), rdecR_ok (dec_fine h4 he hn hq (by omega)) hos⟩)))))))

end Go.Proofs.YtbdmaiipohfnaaaDoor
