/-
  cred.Parse, walked.
-/
import Derived.Test.YtbdmaiipohfnaaaDoorCrdP
import Derived.Test.YtbdmaiipohfnaaaDoorB64D
namespace Go.Proofs.YtbdmaiipohfnaaaDoor
open Go.Sx Go.RowKit
set_option linter.unusedVariables false
set_option linter.unusedSimpArgs false
set_option maxRecDepth 100000

theorem decR_none {s : List UInt8} {v : Value} {G : Heap} {n : Nat} (hr : decR s v G) (h : dec64 s = ([], (n : Int))) : ∃ A c, v = .tuple #[.slice A 0 c, fltV 400 n] := by
  obtain ⟨bv, rfl, hos⟩ := decR_bad hr h
  obtain ⟨A, c, rfl⟩ := hos.form
  exact ⟨A, c, rfl⟩
theorem enc64_back {s b : List UInt8} (h : dec64 s = (b, -1)) : b.length ≤ s.length := by
  have := enc64_length b; rw [enc64_dec h] at this; omega

set_option maxHeartbeats 1000000 in
theorem cparse_spec (w0 : World) (s : List UInt8) (hl : s.length ≤ 500000) : PureAt Tryd.prog 7 [.string ⟨s.toArray⟩] (credV s) w0 := by
  rcases idx_two s 32 with ⟨hi, hno⟩ | ⟨i, hi, hil, hic, hin⟩
  all_goals try have htl : (s.take i).length ≤ s.length := by simp; omega
  all_goals try have hdl : (s.drop (i + 1)).length = s.length - (i + 1) := List.length_drop
  all_goals try have hwl := dropW_length 32 (s.drop (i + 1))
  all_goals (
   refine PureAt.intro go7 Tryd.func7 rfl rfl fun hp => ?_
   refine (fun (hk : ∀ w, Hp w0 [] [] w → K _ _ _ _ _ w) => hk w0 hp) fun w hp => ?_
   refine K_seq ?_
   refine K_region ?_
   refine W_assign rfl rfl ?_
   refine W_assign rfl rfl ?_
   refine W_assign rfl rfl ?_
   refine W_nil ?_
   refine N_then_k ?_
   refine K_seq ?_
   refine K_region ?_
   refine W_move rfl rfl ?_
   first
     | (refine W_pcall hp rfl (cut_yes s 32 (by omega) hi hil) rfl ?_)
     | (refine W_pcall hp rfl (cut_no s 32 (by omega) hi) rfl ?_)
   clear hp; intro w hp
   refine W_move rfl rfl ?_
   refine W_extract rfl rfl rfl ?_
   refine W_extract rfl rfl rfl ?_
   refine W_extract rfl rfl rfl ?_
   refine W_assign rfl rfl ?_
   refine W_assign rfl rfl ?_
   refine W_assign rfl rfl ?_
   refine W_nil ?_
   refine N_then_k ?_
   refine K_seq ?_
   refine K_block ?_
   refine K_seq ?_
   refine K_block ?_
   refine K_block ?_
   refine K_seq ?_
   refine K_seq ?_
   refine K_seq ?_
   refine K_region ?_
   refine W_move rfl rfl ?_
   first
     | (refine W_not_t rfl rfl ?_)
     | (refine W_not_f rfl rfl ?_)
     | (refine W_not rfl rfl ?_)
   refine W_assign rfl rfl ?_
   refine W_nil ?_
   refine N_then_k ?_
   first
     | refine K_cond_d rfl (fun hc1 => ?_) (fun hc1 => ?_)
     | refine K_cond_n rfl (fun hc1 => ?_) (fun hc1 => ?_)
     | refine K_cond_nb rfl (fun hc1 => ?_) (fun hc1 => ?_)
     | refine K_cond_t rfl (fun hc1 => ?_) (fun hc1 => ?_)
   · try (exfalso; first | omega | (simp only [Bool.false_eq_true, reduceCtorEq] at hc1; done) | (refine absurd hc1 ?_; with_reducible assumption) | (refine absurd ?_ hc1; with_reducible assumption))
     all_goals (
      refine K_exit ?_
      refine N_then_exit ?_
      refine N_then_exit ?_
      refine N_block_exit ?_
      refine N_block_normal ?_
      refine N_then_k ?_
      refine K_seq ?_
      refine K_seq ?_
      refine K_region ?_
      refine W_assign rfl rfl ?_
      refine W_assign rfl rfl ?_
      refine W_assign rfl rfl ?_
      refine W_nil ?_
      refine N_then_k ?_
      refine K_ret ?_
      refine N_then_ret ?_
      refine N_block_ret ?_
      refine N_then_ret ?_
      refine N_doneL (.inr rfl) rfl (RVs_cons (RV_tmp rfl) (RVs_cons (RV_tmp rfl) (RVs_cons (RV_tmp rfl) (RVs_nil)))) rfl ?_
      refine ⟨_, rfl, ?_, hp.nil⟩
      first
        | (rw [credV_of (credF1 hi)]; rfl)
        | (rw [credV_of (credF2 hi (by assumption))]; rfl)
        | (rw [credV_of (credF3 hi (by assumption) hD)]; rfl)
        | (rw [credV_of (credF4 hi (by assumption) hD hj)]; rfl)
        | (rw [credV_of (credF5 hi (by assumption) hD hj)]; rfl))
   · try (exfalso; first | omega | (simp only [Bool.false_eq_true, reduceCtorEq] at hc1; done) | (refine absurd hc1 ?_; with_reducible assumption) | (refine absurd ?_ hc1; with_reducible assumption))
     all_goals (
      refine K_skip ?_
      refine N_then_k ?_
      refine K_seq ?_
      refine K_region ?_
      refine W_move rfl rfl ?_
      refine W_pcall hp rfl (lower_spec (s.take i) (by omega)) rfl ?_
      clear hp; intro w hp
      first
        | (refine W_sneq_f rfl rfl ?_ rfl ?_; (focus (first | rfl | assumption)))
        | (refine W_sneq_t rfl rfl ?_ rfl ?_; (focus (first | assumption | decide | exact List.cons_ne_nil _ _)))
        | (refine W_sneq rfl rfl rfl ?_)
      refine W_assign rfl rfl ?_
      refine W_nil ?_
      refine N_then_k ?_
      first
        | refine K_cond_d rfl (fun hc2 => ?_) (fun hc2 => ?_)
        | refine K_cond_n rfl (fun hc2 => ?_) (fun hc2 => ?_)
        | refine K_cond_nb rfl (fun hc2 => ?_) (fun hc2 => ?_)
        | refine K_cond_t rfl (fun hc2 => ?_) (fun hc2 => ?_)
      · try (exfalso; first | omega | (simp only [Bool.false_eq_true, reduceCtorEq] at hc2; done) | (refine absurd hc2 ?_; with_reducible assumption) | (refine absurd ?_ hc2; with_reducible assumption))
        all_goals (
         refine K_exit ?_
         refine N_then_exit ?_
         refine N_block_other rfl ?_
         refine N_block_exit ?_
         refine N_then_k ?_
         refine K_seq ?_
         refine K_seq ?_
         refine K_region ?_
         refine W_assign rfl rfl ?_
         refine W_assign rfl rfl ?_
         refine W_assign rfl rfl ?_
         refine W_nil ?_
         refine N_then_k ?_
         refine K_ret ?_
         refine N_then_ret ?_
         refine N_block_ret ?_
         refine N_then_ret ?_
         refine N_doneL (.inr rfl) rfl (RVs_cons (RV_tmp rfl) (RVs_cons (RV_tmp rfl) (RVs_cons (RV_tmp rfl) (RVs_nil)))) rfl ?_
         refine ⟨_, rfl, ?_, hp.nil⟩
         first
           | (rw [credV_of (credF1 hi)]; rfl)
           | (rw [credV_of (credF2 hi (by assumption))]; rfl)
           | (rw [credV_of (credF3 hi (by assumption) hD)]; rfl)
           | (rw [credV_of (credF4 hi (by assumption) hD hj)]; rfl)
           | (rw [credV_of (credF5 hi (by assumption) hD hj)]; rfl))
      · try (exfalso; first | omega | (simp only [Bool.false_eq_true, reduceCtorEq] at hc2; done) | (refine absurd hc2 ?_; with_reducible assumption) | (refine absurd ?_ hc2; with_reducible assumption))
        all_goals (
         refine K_skip ?_
         refine N_then_k ?_
         refine K_exit ?_
         refine N_block_other rfl ?_
         refine N_block_other rfl ?_
         refine N_then_exit ?_
         refine N_block_exit ?_
         refine N_then_k ?_
         refine K_seq ?_
         refine K_region ?_
         rcases dec_two ((s.drop (i + 1)).dropWhile (· == 32)) with ⟨b, hD⟩ | ⟨n, hD⟩
         all_goals first | (have hbl := enc64_back hD; rcases idx_two b 58 with ⟨hj, _⟩ | ⟨j, hj, hjl, _, _⟩) | skip
         all_goals (
          refine W_move rfl rfl ?_
          refine W_pcall hp rfl (trimL_spec (s.drop (i + 1)) (by omega)) rfl ?_
          clear hp; intro w hp
          refine W_bcall hp rfl ((decode_spec w ((s.drop (i + 1)).dropWhile (· == 32)) (by omega))) rfl ?_
          clear hp; intro v26 G26 w r26 hp
          first
            | (obtain ⟨bv, rfl, hosd⟩ := decR_fine r26 hD; obtain ⟨Ad, cd, rfl⟩ := hosd.form)
            | (obtain ⟨Ad, cd, rfl⟩ := decR_none r26 hD)
          refine W_move rfl rfl ?_
          refine W_extract rfl rfl rfl ?_
          refine W_extract rfl rfl rfl ?_
          refine W_assign rfl rfl ?_
          refine W_assign rfl rfl ?_
          refine W_nil ?_
          refine N_then_k ?_
          refine K_seq ?_
          refine K_seq ?_
          refine K_region ?_
          refine W_move rfl rfl ?_
          first
            | (refine W_val rfl (inb_of rfl) (R_bin (a := .nilIface) (v := .bool false) rfl rfl (by kernel_rfl)) ?_)
            | (refine W_val rfl (inb_of rfl) (R_bin (v := .bool true) rfl rfl (by kernel_rfl)) ?_)
          refine W_nil ?_
          refine N_then_k ?_
          first
            | refine K_cond_d rfl (fun hc3 => ?_) (fun hc3 => ?_)
            | refine K_cond_n rfl (fun hc3 => ?_) (fun hc3 => ?_)
            | refine K_cond_nb rfl (fun hc3 => ?_) (fun hc3 => ?_)
            | refine K_cond_t rfl (fun hc3 => ?_) (fun hc3 => ?_)
          · try (exfalso; first | omega | (simp only [Bool.false_eq_true, reduceCtorEq] at hc3; done) | (refine absurd hc3 ?_; with_reducible assumption) | (refine absurd ?_ hc3; with_reducible assumption))
            all_goals (
             refine K_seq ?_
             refine K_region ?_
             refine W_assign rfl rfl ?_
             refine W_assign rfl rfl ?_
             refine W_assign rfl rfl ?_
             refine W_nil ?_
             refine N_then_k ?_
             refine K_ret ?_
             refine N_then_ret ?_
             refine N_doneL (.inr rfl) rfl (RVs_cons (RV_tmp rfl) (RVs_cons (RV_tmp rfl) (RVs_cons (RV_tmp rfl) (RVs_nil)))) rfl ?_
             refine ⟨_, rfl, ?_, hp.nil⟩
             first
               | (rw [credV_of (credF1 hi)]; rfl)
               | (rw [credV_of (credF2 hi (by assumption))]; rfl)
               | (rw [credV_of (credF3 hi (by assumption) hD)]; rfl)
               | (rw [credV_of (credF4 hi (by assumption) hD hj)]; rfl)
               | (rw [credV_of (credF5 hi (by assumption) hD hj)]; rfl))
          · try (exfalso; first | omega | (simp only [Bool.false_eq_true, reduceCtorEq] at hc3; done) | (refine absurd hc3 ?_; with_reducible assumption) | (refine absurd ?_ hc3; with_reducible assumption))
            all_goals (
             refine K_skip ?_
             refine N_then_k ?_
             refine K_seq ?_
             refine K_seq ?_
             refine K_region ?_
             refine W_move rfl rfl ?_
             refine W_conv_bs (a := b) Tryd.underlying42 Tryd.underlying5 Tryd.underlying9 rfl (hosd.rd (A := []) (B := []) (by simpa using hp)) rfl rfl ?_
             first
               | (refine W_pcall hp rfl (cut_yes b 58 (by omega) hj hjl) rfl ?_)
               | (refine W_pcall hp rfl (cut_no b 58 (by omega) hj) rfl ?_)
             clear hp; intro w hp
             refine W_move rfl rfl ?_
             refine W_extract rfl rfl rfl ?_
             refine W_extract rfl rfl rfl ?_
             refine W_extract rfl rfl rfl ?_
             refine W_assign rfl rfl ?_
             refine W_assign rfl rfl ?_
             refine W_assign rfl rfl ?_
             refine W_nil ?_
             refine N_then_k ?_
             refine K_seq ?_
             refine K_region ?_
             refine W_move rfl rfl ?_
             first
               | (refine W_not_t rfl rfl ?_)
               | (refine W_not_f rfl rfl ?_)
               | (refine W_not rfl rfl ?_)
             refine W_nil ?_
             refine N_then_k ?_
             first
               | refine K_cond_d rfl (fun hc4 => ?_) (fun hc4 => ?_)
               | refine K_cond_n rfl (fun hc4 => ?_) (fun hc4 => ?_)
               | refine K_cond_nb rfl (fun hc4 => ?_) (fun hc4 => ?_)
               | refine K_cond_t rfl (fun hc4 => ?_) (fun hc4 => ?_)
             · try (exfalso; first | omega | (simp only [Bool.false_eq_true, reduceCtorEq] at hc4; done) | (refine absurd hc4 ?_; with_reducible assumption) | (refine absurd ?_ hc4; with_reducible assumption))
               all_goals (
                refine K_seq ?_
                refine K_region ?_
                refine W_assign rfl rfl ?_
                refine W_assign rfl rfl ?_
                refine W_assign rfl rfl ?_
                refine W_nil ?_
                refine N_then_k ?_
                refine K_ret ?_
                refine N_then_ret ?_
                refine N_doneL (.inr rfl) rfl (RVs_cons (RV_tmp rfl) (RVs_cons (RV_tmp rfl) (RVs_cons (RV_tmp rfl) (RVs_nil)))) rfl ?_
                refine ⟨_, rfl, ?_, hp.nil⟩
                first
                  | (rw [credV_of (credF1 hi)]; rfl)
                  | (rw [credV_of (credF2 hi (by assumption))]; rfl)
                  | (rw [credV_of (credF3 hi (by assumption) hD)]; rfl)
                  | (rw [credV_of (credF4 hi (by assumption) hD hj)]; rfl)
                  | (rw [credV_of (credF5 hi (by assumption) hD hj)]; rfl))
             · try (exfalso; first | omega | (simp only [Bool.false_eq_true, reduceCtorEq] at hc4; done) | (refine absurd hc4 ?_; with_reducible assumption) | (refine absurd ?_ hc4; with_reducible assumption))
               all_goals (
                refine K_skip ?_
                refine N_then_k ?_
                refine K_seq ?_
                refine K_region ?_
                refine W_move rfl rfl ?_
                refine W_move rfl rfl ?_
                refine W_assign rfl rfl ?_
                refine W_assign rfl rfl ?_
                refine W_assign rfl rfl ?_
                refine W_nil ?_
                refine N_then_k ?_
                refine K_ret ?_
                refine N_doneL (.inr rfl) rfl (RVs_cons (RV_tmp rfl) (RVs_cons (RV_tmp rfl) (RVs_cons (RV_tmp rfl) (RVs_nil)))) rfl ?_
                refine ⟨_, rfl, ?_, hp.nil⟩
                first
                  | (rw [credV_of (credF1 hi)]; rfl)
                  | (rw [credV_of (credF2 hi (by assumption))]; rfl)
                  | (rw [credV_of (credF3 hi (by assumption) hD)]; rfl)
                  | (rw [credV_of (credF4 hi (by assumption) hD hj)]; rfl)
                  | (rw [credV_of (credF5 hi (by assumption) hD hj)]; rfl)))))))

end Go.Proofs.YtbdmaiipohfnaaaDoor
