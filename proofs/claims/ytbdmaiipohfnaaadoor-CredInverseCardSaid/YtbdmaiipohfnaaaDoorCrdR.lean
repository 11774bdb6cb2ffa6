/-
  doorkeeperref21.Parse, and the texts of credentials, walked.
-/
import Derived.Test.YtbdmaiipohfnaaaDoorCrdW
import Derived.Test.YtbdmaiipohfnaaaDoorB64T
namespace Go.Proofs.YtbdmaiipohfnaaaDoor
open Go.Sx Go.RowKit
set_option linter.unusedVariables false
set_option linter.unusedSimpArgs false
set_option maxRecDepth 100000

theorem rd_take {w : World} {A : Option Addr} {c q : Nat} {b : List UInt8} (hr : Rd w (.slice A b.length c) b.length (bytesV b)) : Rd w (.slice A q c) q (bytesV (b.take q)) := by
  have := rd_cut_h (j := q) (s := 1) hr
  rwa [Nat.mul_one, ← bytesV_take] at this
theorem rd_drop {w : World} {A : Option Addr} {c i : Nat} {b : List UInt8} (hc : b.length ≤ c) (hr : Rd w (.slice A b.length c) b.length (bytesV b)) : Rd w (.slice (if c = i then A else A.map (·.add (i * 1))) (b.length - i) (c - i)) (b.length - i) (bytesV (b.drop i)) := by
  have := rd_cut (i := i) (j := b.length) (s := 1) hr hc
  rw [Nat.mul_one, Nat.mul_one, List.take_of_length_le (by simp [bytesV])] at this
  rw [show bytesV (b.drop i) = (bytesV b).drop i by simp [bytesV, List.map_drop], Nat.mul_one]; exact this
theorem enc64_back' {s b : List UInt8} (h : dec64 s = (b, -1)) : b.length ≤ s.length := by
  have := enc64_length b; rw [enc64_dec h] at this; omega

set_option maxHeartbeats 1000000 in
theorem rcparse_spec (w0 : World) (s : List UInt8) (hl : s.length ≤ 5000) : PureAt Tryd.prog 8 [.string ⟨s.toArray⟩] (credV s) w0 := by
  have h32 : (32 : UInt8).toNat = 32 := rfl
  have h58 : (58 : UInt8).toNat = 58 := rfl
  have hdl : ∀ k, (s.drop k).length = s.length - k := fun k => List.length_drop
  have htl : (s.take 5).length ≤ s.length := by simp; omega
  refine PureAt.intro go8 Tryd.func8 rfl rfl fun hp => ?_
  refine (fun (hk : ∀ w, Hp w0 [] [] w → K _ _ _ _ _ w) => hk w0 hp) fun w hp => ?_
  refine K_seq ?_
  refine K_region ?_
  refine W_assign rfl rfl ?_
  refine W_assign rfl rfl ?_
  refine W_assign rfl rfl ?_
  refine W_nil ?_
  refine N_then_k ?_
  refine K_seq ?_
  refine K_seq ?_
  refine K_region ?_
  refine W_move rfl rfl ?_
  refine W_len_s Tryd.underlying9 rfl rfl ?_
  first
    | (refine W_lss_t rfl rfl ?_ rfl ?_; (focus (omega)))
    | (refine W_lss_f rfl rfl ?_ rfl ?_; (focus (omega)))
    | (refine W_lss rfl rfl rfl ?_)
  refine W_move rfl rfl ?_
  first
    | refine W_guard_lit_t rfl ?_
    | refine W_guard_lit_f rfl ?_
    | refine W_guard_lit_u rfl ?_
    | refine W_guard_split_d rfl rfl rfl (fun hg1 => ?_) (fun hg1 => ?_)
    | refine W_guard_split_n rfl rfl rfl (fun hg1 => ?_) (fun hg1 => ?_)
    | refine W_guard_split_nb rfl rfl rfl (fun hg1 => ?_) (fun hg1 => ?_)
    | refine W_guard_split rfl rfl rfl (fun hg1 => ?_) (fun hg1 => ?_)
  all_goals try (exfalso; first | omega | (simp only [Bool.false_eq_true, reduceCtorEq] at hg1; done) | (refine absurd hg1 ?_; with_reducible assumption) | (refine absurd ?_ hg1; with_reducible assumption))
  all_goals (
   first
     | (iterate 4 refine W_guard_no rfl rfl rfl ?_)
     | (iterate 4 refine W_guard_un rfl rfl ?_)
     | (refine W_guard_yes rfl ?_
        refine W_move rfl rfl ?_
        refine W_guard_yes rfl ?_
        refine W_slice_sh Tryd.underlying9 rfl rfl ?_ ?_ rfl ?_
        (focus (first | omega | (simp; omega) | (simp only [List.length_drop, List.length_take, List.length_append]; omega)))
        (focus (first | omega | (simp; omega) | (simp only [List.length_drop, List.length_take, List.length_append]; omega)))
        refine W_guard_yes rfl ?_
        refine W_pcall hp rfl (rlower_spec (s.take 5) (by omega)) rfl ?_
        clear hp; intro w hp
        refine W_guard_yes rfl ?_
        first
          | (refine W_sneq_f rfl rfl ?_ rfl ?_; (focus (first | rfl | assumption)))
          | (refine W_sneq_t rfl rfl ?_ rfl ?_; (focus (first | assumption | decide | exact List.cons_ne_nil _ _)))
          | (refine W_sneq rfl rfl rfl ?_))
   first
     | (refine W_pick_t rfl rfl rfl ?_)
     | (refine W_pick_f rfl rfl rfl ?_)
     | (refine W_pick_b rfl rfl rfl rfl ?_)
   refine W_move rfl rfl ?_
   first
     | refine W_guard_lit_t rfl ?_
     | refine W_guard_lit_f rfl ?_
     | refine W_guard_lit_u rfl ?_
     | refine W_guard_split_d rfl rfl rfl (fun hg2 => ?_) (fun hg2 => ?_)
     | refine W_guard_split_n rfl rfl rfl (fun hg2 => ?_) (fun hg2 => ?_)
     | refine W_guard_split_nb rfl rfl rfl (fun hg2 => ?_) (fun hg2 => ?_)
     | refine W_guard_split rfl rfl rfl (fun hg2 => ?_) (fun hg2 => ?_)
   all_goals try (exfalso; first | omega | (simp only [Bool.false_eq_true, reduceCtorEq] at hg2; done) | (refine absurd hg2 ?_; with_reducible assumption) | (refine absurd ?_ hg2; with_reducible assumption))
   all_goals (
    first
      | (iterate 3 refine W_guard_no rfl rfl rfl ?_)
      | (iterate 3 refine W_guard_un rfl rfl ?_)
      | (refine W_guard_yes rfl ?_
         refine W_move rfl rfl ?_
         refine W_guard_yes rfl ?_
         obtain ⟨c, hc⟩ : ∃ c, s[5]? = some c := ⟨_, List.getElem?_eq_getElem (by omega)⟩
         refine W_index_s (b := c) Tryd.underlying9 rfl rfl (by decide) hc rfl ?_
         refine W_guard_yes rfl ?_
         first
           | (refine W_neq_t rfl rfl ?_ rfl ?_; (focus (omega)))
           | (refine W_neq_f rfl rfl ?_ rfl ?_; (focus (omega)))
           | (refine W_neq rfl rfl rfl ?_))
    first
      | (refine W_pick_t rfl rfl rfl ?_)
      | (refine W_pick_f rfl rfl rfl ?_)
      | (refine W_pick_b rfl rfl rfl rfl ?_)
    refine W_nil ?_
    refine N_then_k ?_
    first
      | refine K_cond_d rfl (fun hc3 => ?_) (fun hc3 => ?_)
      | refine K_cond_n rfl (fun hc3 => ?_) (fun hc3 => ?_)
      | refine K_cond_nb rfl (fun hc3 => ?_) (fun hc3 => ?_)
      | refine K_cond_t rfl (fun hc3 => ?_) (fun hc3 => ?_)
    · try (exfalso; first | omega | (simp only [Bool.false_eq_true, reduceCtorEq] at hc3; done) | (refine absurd hc3 ?_; with_reducible assumption) | (refine absurd ?_ hc3; with_reducible assumption))
      all_goals (
       refine K_seq ?_
       refine K_region ?_
       refine W_assign rfl rfl ?_
       refine W_assign rfl rfl ?_
       refine W_assign rfl rfl ?_
       refine W_nil ?_
       refine N_then_k ?_
       refine K_ret ?_
       refine N_then_ret ?_
       refine N_doneL (.inr rfl) rfl (RVs_cons (RV_tmp rfl) (RVs_cons (RV_tmp rfl) (RVs_cons (RV_tmp rfl) (RVs_nil)))) rfl ?_
       refine ⟨_, rfl, ?_, hp.nil⟩
       first
         | (rw [credV_of (credF3 hid hbs hD6)]; rfl)
         | (have e58 : x = 58 := UInt8.toNat_inj.1 (show x.toNat = (58 : UInt8).toNat by show x.toNat = 58; omega)
            subst e58; rw [credV_of (credF5 hid hbs hD6 (idx_at hx hno))]; rfl)
         | (rw [List.take_of_length_le hge] at hno; rw [credV_of (credF4 hid hbs hD6 (idx_not fun hm => hno _ hm rfl))]; rfl)
         | (rw [credV_of (cred_none fun h => by omega)]; rfl)
         | (rw [credV_of (cred_none fun h => absurd h.2.1 (by assumption))]; rfl)
         | (rw [credV_of (cred_none fun h => by rw [hc] at h; have e := Option.some.inj h.2.2; subst e; omega)]; rfl))
    · try (exfalso; first | omega | (simp only [Bool.false_eq_true, reduceCtorEq] at hc3; done) | (refine absurd hc3 ?_; with_reducible assumption) | (refine absurd ?_ hc3; with_reducible assumption))
      all_goals (
       refine K_skip ?_
       refine N_then_k ?_
       refine K_seq ?_
       refine K_region ?_
       have h5 : s[5]? = some 32 := by rw [hc, UInt8.toNat_inj.1 (show c.toNat = (32 : UInt8).toNat by show c.toNat = 32; omega)]
       have hbs : lower (s.take 5) = [98, 97, 115, 105, 99] := by assumption
       have hid := basic_ref hbs h5
       refine W_assign rfl rfl ?_
       refine W_nil ?_
       refine N_then_k ?_
       refine K_seq ?_
       refine K_block ?_
       refine K_loop (σ := Nat) [5, 23, 24, 25, 26, 27, 28, 29, 30, 31, 32, 33, 34]
           (fun k => [(5, .int .i64 k)])
           (fun k w => Hp w0 [] [] w ∧ 5 ≤ k ∧ k ≤ s.length ∧ (s.drop k).dropWhile (· == 32) = (s.drop 5).dropWhile (· == 32))
           (fun k => s.length - k) (5) ?_ ?_ ?_
       · repeat' (first | exact sub_lst_nil (sub_nil _) | refine sub_lst rfl ?_ | (refine sub_lst_eq rfl ?_ ?_; · first | rfl | (simp; done) | (congr 1; omega)))
       · exact ⟨hp, Nat.le_refl 5, by omega, rfl⟩
       · intro k w hJ
         clear hp
         obtain ⟨hp, hk5, hle, hdw⟩ := hJ
         rcases Nat.lt_or_ge k s.length with hlt | hge
         all_goals (
          refine K_seq ?_
          refine K_seq ?_
          refine K_region ?_
          refine W_move rfl rfl ?_
          refine W_move rfl rfl ?_
          refine W_len_s Tryd.underlying9 rfl rfl ?_
          first
            | (refine W_lss_t rfl rfl ?_ rfl ?_; (focus (omega)))
            | (refine W_lss_f rfl rfl ?_ rfl ?_; (focus (omega)))
            | (refine W_lss rfl rfl rfl ?_)
          refine W_move rfl rfl ?_
          first
            | refine W_guard_lit_t rfl ?_
            | refine W_guard_lit_f rfl ?_
            | refine W_guard_lit_u rfl ?_
            | refine W_guard_split_d rfl rfl rfl (fun hg4 => ?_) (fun hg4 => ?_)
            | refine W_guard_split_n rfl rfl rfl (fun hg4 => ?_) (fun hg4 => ?_)
            | refine W_guard_split_nb rfl rfl rfl (fun hg4 => ?_) (fun hg4 => ?_)
            | refine W_guard_split rfl rfl rfl (fun hg4 => ?_) (fun hg4 => ?_)
          all_goals try (exfalso; first | omega | (simp only [Bool.false_eq_true, reduceCtorEq] at hg4; done) | (refine absurd hg4 ?_; with_reducible assumption) | (refine absurd ?_ hg4; with_reducible assumption))
          all_goals (
           first
             | (iterate 4 refine W_guard_no rfl rfl rfl ?_)
             | (iterate 4 refine W_guard_un rfl rfl ?_)
             | (refine W_guard_yes rfl ?_
                refine W_move rfl rfl ?_
                refine W_guard_yes rfl ?_
                refine W_move rfl rfl ?_
                refine W_guard_yes rfl ?_
                obtain ⟨x, hx⟩ : ∃ x, s[k]? = some x := ⟨_, List.getElem?_eq_getElem (by omega)⟩
                refine W_index_s (b := x) Tryd.underlying9 rfl rfl (by omega) (by exact hx) rfl ?_
                refine W_guard_yes rfl ?_
                first
                  | (refine W_eql_t rfl rfl ?_ rfl ?_; (focus (omega)))
                  | (refine W_eql_f rfl rfl ?_ rfl ?_; (focus (omega)))
                  | (refine W_eql rfl rfl rfl ?_))
           first
             | (refine W_pick_t rfl rfl rfl ?_)
             | (refine W_pick_f rfl rfl rfl ?_)
             | (refine W_pick_b rfl rfl rfl rfl ?_)
           refine W_nil ?_
           refine N_then_k ?_
           first
             | refine K_cond_d rfl (fun hc5 => ?_) (fun hc5 => ?_)
             | refine K_cond_n rfl (fun hc5 => ?_) (fun hc5 => ?_)
             | refine K_cond_nb rfl (fun hc5 => ?_) (fun hc5 => ?_)
             | refine K_cond_t rfl (fun hc5 => ?_) (fun hc5 => ?_)
           · try (exfalso; first | omega | (simp only [Bool.false_eq_true, reduceCtorEq] at hc5; done) | (refine absurd hc5 ?_; with_reducible assumption) | (refine absurd ?_ hc5; with_reducible assumption))
             all_goals (
              refine K_skip ?_
              refine N_then_k ?_
              refine K_block ?_
              refine K_region ?_
              refine W_move rfl rfl ?_
              first
                | (refine W_add rfl rfl (wr_i64 ?_) rfl ?_; (focus (omega)))
                | (refine W_add rfl rfl rfl rfl ?_)
              refine W_assign rfl rfl ?_
              refine W_nil ?_
              refine N_block_normal ?_
              refine N_again (k + 1) (sub_end ?_ ?_) ?_ ?_
              · repeat' (first | exact sub_lst_nil (sub_nil _) | refine sub_lst rfl ?_ | (refine sub_lst_eq rfl ?_ ?_; · first | rfl | (simp; done) | (congr 1; omega)))
              · repeat' (first | exact sub_refl _ | exact sub_strip _ _ | refine sub_s_cons rfl ?_ | refine sub_s_lst rfl ?_ | refine sub_s_strip rfl ?_)
              · refine ⟨hp, by omega, by omega, ?_⟩
                rw [← hdw]
                conv => rhs; rw [List.drop_eq_getElem_cons (List.getElem?_eq_some_iff.1 hx).1, (List.getElem?_eq_some_iff.1 hx).2]
                exact (dropW_cons (UInt8.toNat_inj.1 (show x.toNat = (32 : UInt8).toNat by show x.toNat = 32; omega))).symm
              · omega)
           · try (exfalso; first | omega | (simp only [Bool.false_eq_true, reduceCtorEq] at hc5; done) | (refine absurd hc5 ?_; with_reducible assumption) | (refine absurd ?_ hc5; with_reducible assumption))
             all_goals (
              refine K_exit ?_
              refine N_then_exit ?_
              refine N_then_exit ?_
              refine N_block_exit ?_
              refine N_then_k ?_
              refine K_seq ?_
              refine K_region ?_
              have hrest : s.drop k = (s.drop 6).dropWhile (· == 32) := by
                rw [← drop_blank h5, ← hdw]
                first
                  | (rw [List.drop_eq_getElem_cons (List.getElem?_eq_some_iff.1 hx).1, (List.getElem?_eq_some_iff.1 hx).2]; exact (dropW_no (fun e => by subst e; omega)).symm)
                  | (rw [List.drop_of_length_le (by omega)]; rfl)
              rcases dec_two (s.drop k) with ⟨b, hD⟩ | ⟨n, hD⟩
              all_goals have hD6 := hD
              all_goals rw [hrest] at hD6
              all_goals first | (have hbl := enc64_back' hD; rw [hdl] at hbl) | skip
              all_goals (
               refine W_move rfl rfl ?_
               refine W_move rfl rfl ?_
               refine W_slice_sl Tryd.underlying9 rfl rfl ?_ ?_ rfl ?_
               (focus (first | omega | (simp; omega) | (simp only [List.length_drop, List.length_take, List.length_append]; omega)))
               (focus (first | omega | (simp; omega) | (simp only [List.length_drop, List.length_take, List.length_append]; omega)))
               refine W_bcall hp rfl ((rdecode_spec w (s.drop k) (by rw [hdl]; omega))) rfl ?_
               clear hp; intro v39 G39 w r39 hp
               obtain ⟨bv, rfl, hosw⟩ := rdecR_of r39 hD
               obtain ⟨Ab, cb, rfl⟩ := hosw.form
               have hroom := OS.room (show OS _ _ _ _ _ _ from hosw)
               refine W_move rfl rfl ?_
               refine W_extract rfl rfl rfl ?_
               refine W_extract rfl rfl rfl ?_
               refine W_assign rfl rfl ?_
               refine W_assign rfl rfl ?_
               refine W_nil ?_
               refine N_then_k ?_
               refine K_seq ?_
               refine K_seq ?_
               refine K_region ?_
               refine W_move rfl rfl ?_
               first
                 | (refine W_geq_t rfl rfl ?_ rfl ?_; (focus (omega)))
                 | (refine W_geq_f rfl rfl ?_ rfl ?_; (focus (omega)))
                 | (refine W_geq rfl rfl rfl ?_)
               refine W_nil ?_
               refine N_then_k ?_
               first
                 | refine K_cond_d rfl (fun hc6 => ?_) (fun hc6 => ?_)
                 | refine K_cond_n rfl (fun hc6 => ?_) (fun hc6 => ?_)
                 | refine K_cond_nb rfl (fun hc6 => ?_) (fun hc6 => ?_)
                 | refine K_cond_t rfl (fun hc6 => ?_) (fun hc6 => ?_)
               · try (exfalso; first | omega | (simp only [Bool.false_eq_true, reduceCtorEq] at hc6; done) | (refine absurd hc6 ?_; with_reducible assumption) | (refine absurd ?_ hc6; with_reducible assumption))
                 all_goals (
                  refine K_seq ?_
                  refine K_region ?_
                  refine W_assign rfl rfl ?_
                  refine W_assign rfl rfl ?_
                  refine W_assign rfl rfl ?_
                  refine W_nil ?_
                  refine N_then_k ?_
                  refine K_ret ?_
                  refine N_then_ret ?_
                  refine N_doneL (.inr rfl) rfl (RVs_cons (RV_tmp rfl) (RVs_cons (RV_tmp rfl) (RVs_cons (RV_tmp rfl) (RVs_nil)))) rfl ?_
                  refine ⟨_, rfl, ?_, hp.nil⟩
                  first
                    | (rw [credV_of (credF3 hid hbs hD6)]; rfl)
                    | (have e58 : x = 58 := UInt8.toNat_inj.1 (show x.toNat = (58 : UInt8).toNat by show x.toNat = 58; omega)
                       subst e58; rw [credV_of (credF5 hid hbs hD6 (idx_at hx hno))]; rfl)
                    | (rw [List.take_of_length_le hge] at hno; rw [credV_of (credF4 hid hbs hD6 (idx_not fun hm => hno _ hm rfl))]; rfl)
                    | (rw [credV_of (cred_none fun h => by omega)]; rfl)
                    | (rw [credV_of (cred_none fun h => absurd h.2.1 (by assumption))]; rfl)
                    | (rw [credV_of (cred_none fun h => by rw [hc] at h; have e := Option.some.inj h.2.2; subst e; omega)]; rfl))
               · try (exfalso; first | omega | (simp only [Bool.false_eq_true, reduceCtorEq] at hc6; done) | (refine absurd hc6 ?_; with_reducible assumption) | (refine absurd ?_ hc6; with_reducible assumption))
                 all_goals (
                  refine K_skip ?_
                  refine N_then_k ?_
                  refine K_seq ?_
                  refine K_seq ?_
                  refine K_region ?_
                  refine W_assign rfl rfl ?_
                  refine W_nil ?_
                  refine N_then_k ?_
                  refine K_block ?_
                  refine K_loop (σ := Nat) [2, 3, 4, 8, 44, 45, 46, 47, 48, 49, 50, 51, 52, 53, 54, 55, 56, 57, 58, 59, 60, 61, 62, 63]
                      (fun q => [(8, .int .i64 q)])
                      (fun q w => Hp w0 [] G39 w ∧ q ≤ b.length ∧ ∀ x ∈ b.take q, x ≠ 58)
                      (fun q => b.length - q) (0) ?_ ?_ ?_
                  · repeat' (first | exact sub_lst_nil (sub_nil _) | refine sub_lst rfl ?_ | (refine sub_lst_eq rfl ?_ ?_; · first | rfl | (simp; done) | (congr 1; omega)))
                  · exact ⟨by simpa using hp, Nat.zero_le _, by simp⟩
                  · intro q w hJ
                    clear hp
                    obtain ⟨hp, hle2, hno⟩ := hJ
                    rcases Nat.lt_or_ge q b.length with hlt | hge
                    all_goals (
                     refine K_seq ?_
                     refine K_seq ?_
                     refine K_region ?_
                     refine W_move rfl rfl ?_
                     refine W_move rfl rfl ?_
                     refine W_len_sl Tryd.underlying42 rfl rfl ?_
                     first
                       | (refine W_lss_t rfl rfl ?_ rfl ?_; (focus (omega)))
                       | (refine W_lss_f rfl rfl ?_ rfl ?_; (focus (omega)))
                       | (refine W_lss rfl rfl rfl ?_)
                     refine W_nil ?_
                     refine N_then_k ?_
                     first
                       | refine K_cond_d rfl (fun hc7 => ?_) (fun hc7 => ?_)
                       | refine K_cond_n rfl (fun hc7 => ?_) (fun hc7 => ?_)
                       | refine K_cond_nb rfl (fun hc7 => ?_) (fun hc7 => ?_)
                       | refine K_cond_t rfl (fun hc7 => ?_) (fun hc7 => ?_)
                     · try (exfalso; first | omega | (simp only [Bool.false_eq_true, reduceCtorEq] at hc7; done) | (refine absurd hc7 ?_; with_reducible assumption) | (refine absurd ?_ hc7; with_reducible assumption))
                       all_goals (
                        refine K_skip ?_
                        refine N_then_k ?_
                        refine K_seq ?_
                        refine K_block ?_
                        refine K_seq ?_
                        have hrd := hosw.rd (A := []) (B := []) (by simpa using hp)
                        obtain ⟨x, hx⟩ : ∃ x, b[q]? = some x := ⟨_, List.getElem?_eq_getElem hlt⟩
                        obtain ⟨bb, oo, rfl⟩ := hrd.some (by intro e; have := congrArg List.length e; simp [bytesV] at this; subst this; simp at hx)
                        have hcx := hrd.cell (bytesV_at hx)
                        have htq : (b.take q).length = q := by rw [List.length_take]; omega
                        refine K_region ?_
                        refine W_move rfl rfl ?_
                        refine W_move rfl rfl ?_
                        refine W_indexAddr_sl Tryd.underlying42 sz5 rfl rfl ?_ ?_ rfl ?_
                        (focus (omega))
                        (focus (first | omega | (simp; done) | (simp; omega)))
                        refine W_load_s Tryd.underlying5 rfl rfl (by exact (show w.cell? ⟨bb, oo + (q : Int).toNat * 1, none⟩ = some (.int .u8 (x.toNat : Int)) by rw [show oo + (q : Int).toNat * 1 = oo + q by omega]; exact hcx)) rfl ?_
                        first
                          | (refine W_eql_t rfl rfl ?_ rfl ?_; (focus (omega)))
                          | (refine W_eql_f rfl rfl ?_ rfl ?_; (focus (omega)))
                          | (refine W_eql rfl rfl rfl ?_)
                        refine W_nil ?_
                        refine N_then_k ?_
                        first
                          | refine K_cond_d rfl (fun hc8 => ?_) (fun hc8 => ?_)
                          | refine K_cond_n rfl (fun hc8 => ?_) (fun hc8 => ?_)
                          | refine K_cond_nb rfl (fun hc8 => ?_) (fun hc8 => ?_)
                          | refine K_cond_t rfl (fun hc8 => ?_) (fun hc8 => ?_)
                        · try (exfalso; first | omega | (simp only [Bool.false_eq_true, reduceCtorEq] at hc8; done) | (refine absurd hc8 ?_; with_reducible assumption) | (refine absurd ?_ hc8; with_reducible assumption))
                          all_goals (
                           refine K_seq ?_
                           refine K_quiet hm hp (by kernel_rfl) ?_
                           clear hp
                           refine Wq_val (fun w hp => R_move rfl) rfl ?_
                           refine Wq_val (fun w hp => R_move rfl) rfl ?_
                           refine Wq_val (fun w hp => R_cut_h Tryd.underlying42 sz5 rfl rfl (by omega) (by omega)) rfl ?_
                           refine Wq_val (fun w hp => R_conv_bs (a := b.take q) Tryd.underlying42 Tryd.underlying5 Tryd.underlying9 rfl (rd_take (hosw.rd (A := []) (B := []) (by simpa using hp))) htq) rfl ?_
                           refine Wq_val (fun w hp => R_move rfl) rfl ?_
                           refine Wq_val (fun w hp => R_move rfl) rfl ?_
                           first
                             | (refine Wq_val (fun w hp => R_add rfl rfl (wr_i64 ?_)) rfl ?_; (focus (omega)))
                             | (refine Wq_val (fun w hp => R_add rfl rfl rfl) rfl ?_)
                           refine Wq_val (fun w hp => R_cut_l Tryd.underlying42 sz5 rfl rfl (by omega) (by omega)) rfl ?_
                           refine Wq_val (fun w hp => R_conv_bs (a := b.drop (q + 1)) Tryd.underlying42 Tryd.underlying5 Tryd.underlying9 rfl (rd_drop hroom (hosw.rd (A := []) (B := []) (by simpa using hp))) (by rw [List.length_drop]; rfl)) rfl ?_
                           refine Wq_val (fun w hp => R_assign rfl) rfl ?_
                           refine Wq_val (fun w hp => R_assign rfl) rfl ?_
                           refine Wq_val (fun w hp => R_assign rfl) rfl ?_
                           refine Wq_end ?_
                           intro w hp
                           refine N_then_k ?_
                           refine K_ret ?_
                           refine N_block_ret ?_
                           refine N_then_ret ?_
                           refine N_then_ret ?_
                           refine N_block_ret ?_
                           refine N_then_ret ?_
                           refine N_doneL (.inr rfl) rfl (RVs_cons (RV_tmp rfl) (RVs_cons (RV_tmp rfl) (RVs_cons (RV_tmp rfl) (RVs_nil)))) rfl ?_
                           refine ⟨_, rfl, ?_, hp.nil⟩
                           first
                             | (rw [credV_of (credF3 hid hbs hD6)]; rfl)
                             | (have e58 : x = 58 := UInt8.toNat_inj.1 (show x.toNat = (58 : UInt8).toNat by show x.toNat = 58; omega)
                                subst e58; rw [credV_of (credF5 hid hbs hD6 (idx_at hx hno))]; rfl)
                             | (rw [List.take_of_length_le hge] at hno; rw [credV_of (credF4 hid hbs hD6 (idx_not fun hm => hno _ hm rfl))]; rfl)
                             | (rw [credV_of (cred_none fun h => by omega)]; rfl)
                             | (rw [credV_of (cred_none fun h => absurd h.2.1 (by assumption))]; rfl)
                             | (rw [credV_of (cred_none fun h => by rw [hc] at h; have e := Option.some.inj h.2.2; subst e; omega)]; rfl))
                        · try (exfalso; first | omega | (simp only [Bool.false_eq_true, reduceCtorEq] at hc8; done) | (refine absurd hc8 ?_; with_reducible assumption) | (refine absurd ?_ hc8; with_reducible assumption))
                          all_goals (
                           refine K_skip ?_
                           refine N_block_normal ?_
                           refine N_then_k ?_
                           refine K_region ?_
                           refine W_move rfl rfl ?_
                           first
                             | (refine W_add rfl rfl (wr_i64 ?_) rfl ?_; (focus (omega)))
                             | (refine W_add rfl rfl rfl rfl ?_)
                           refine W_assign rfl rfl ?_
                           refine W_nil ?_
                           refine N_again (q + 1) (sub_end ?_ ?_) ?_ ?_
                           · repeat' (first | exact sub_lst_nil (sub_nil _) | refine sub_lst rfl ?_ | (refine sub_lst_eq rfl ?_ ?_; · first | rfl | (simp; done) | (congr 1; omega)))
                           · repeat' (first | exact sub_refl _ | exact sub_strip _ _ | refine sub_s_cons rfl ?_ | refine sub_s_lst rfl ?_ | refine sub_s_strip rfl ?_)
                           · refine ⟨hp, hlt, ?_⟩
                             rw [List.take_add_one, hx]
                             intro y hy
                             rcases List.mem_append.1 hy with h | h
                             · exact hno y h
                             · obtain rfl := List.mem_singleton.1 h
                               intro e; subst e; omega
                           · omega))
                     · try (exfalso; first | omega | (simp only [Bool.false_eq_true, reduceCtorEq] at hc7; done) | (refine absurd hc7 ?_; with_reducible assumption) | (refine absurd ?_ hc7; with_reducible assumption))
                       all_goals (
                        refine K_exit ?_
                        refine N_then_exit ?_
                        refine N_then_exit ?_
                        refine N_block_exit ?_
                        refine N_then_k ?_
                        refine K_seq ?_
                        refine K_region ?_
                        refine W_assign rfl rfl ?_
                        refine W_assign rfl rfl ?_
                        refine W_assign rfl rfl ?_
                        refine W_nil ?_
                        refine N_then_k ?_
                        refine K_ret ?_
                        refine N_doneL (.inr rfl) rfl (RVs_cons (RV_tmp rfl) (RVs_cons (RV_tmp rfl) (RVs_cons (RV_tmp rfl) (RVs_nil)))) rfl ?_
                        refine ⟨_, rfl, ?_, hp.nil⟩
                        first
                          | (rw [credV_of (credF3 hid hbs hD6)]; rfl)
                          | (have e58 : x = 58 := UInt8.toNat_inj.1 (show x.toNat = (58 : UInt8).toNat by show x.toNat = 58; omega)
                             subst e58; rw [credV_of (credF5 hid hbs hD6 (idx_at hx hno))]; rfl)
                          | (rw [List.take_of_length_le hge] at hno; rw [credV_of (credF4 hid hbs hD6 (idx_not fun hm => hno _ hm rfl))]; rfl)
                          | (rw [credV_of (cred_none fun h => by omega)]; rfl)
                          | (rw [credV_of (cred_none fun h => absurd h.2.1 (by assumption))]; rfl)
                          | (rw [credV_of (cred_none fun h => by rw [hc] at h; have e := Option.some.inj h.2.2; subst e; omega)]; rfl)))))))))))

def ctextF (a b : List UInt8) : List UInt8 := ([66, 97, 115, 105, 99, 32] ++ enc64 (a ++ [58] ++ b))

theorem ctext_spec (w0 : World) (a b : List UInt8) (ha : a.length ≤ 1000) (hb : b.length ≤ 1000) : PureAt Tryd.prog 9 [.string ⟨a.toArray⟩, .string ⟨b.toArray⟩] (.string ⟨(ctextF a b).toArray⟩) w0 := by
  have hcl : (a ++ [58] ++ b).length = a.length + b.length + 1 := by simp; omega
  have hel := enc64_length (a ++ [58] ++ b)
  refine PureAt.intro go9 Tryd.func9 rfl rfl fun hp => ?_
  refine (fun (hk : ∀ w, Hp w0 [] [] w → K _ _ _ _ _ w) => hk w0 hp) fun w hp => ?_
  refine K_seq ?_
  refine K_region ?_
  refine W_assign rfl rfl ?_
  refine W_nil ?_
  refine N_then_k ?_
  refine K_seq ?_
  refine K_region ?_
  refine W_move rfl rfl ?_
  refine W_sadd rfl rfl ?_ rfl ?_
  (focus (first | omega | (simp only [List.length_append, List.length_cons, List.length_nil, List.length_drop, List.length_take] at *; omega) | (simp; omega)))
  refine W_move rfl rfl ?_
  refine W_sadd rfl rfl ?_ rfl ?_
  (focus (first | omega | (simp only [List.length_append, List.length_cons, List.length_nil, List.length_drop, List.length_take] at *; omega) | (simp; omega)))
  refine W_conv_sb (a := a ++ [58] ++ b) hp Tryd.underlying9 Tryd.underlying42 Tryd.underlying5 rfl (by omega) rfl ?_
  clear hp; intro bc cp zs fz w hzs hcm hfz hp
  refine W_acall hp rfl ((encode_spec w (a ++ [58] ++ b) _ _ (Rd.own hp List.mem_cons_self (List.prefix_append _ _)) (by omega) (by omega))) rfl ?_
  clear hp; intro w hp
  refine W_sadd rfl rfl ?_ rfl ?_
  (focus (first | omega | (simp only [List.length_append, List.length_cons, List.length_nil, List.length_drop, List.length_take] at *; omega) | (simp; omega)))
  refine W_assign rfl rfl ?_
  refine W_nil ?_
  refine N_then_k ?_
  refine K_ret ?_
  refine N_done1 (.inr rfl) rfl rfl ?_
  exact ⟨_, rfl, rfl, hp.nil⟩

theorem rctext_spec (w0 : World) (a b : List UInt8) (ha : a.length ≤ 1000) (hb : b.length ≤ 1000) : PureAt Tryd.prog 10 [.string ⟨a.toArray⟩, .string ⟨b.toArray⟩] (.string ⟨(ctextF a b).toArray⟩) w0 := by
  have hcl : (a ++ [58] ++ b).length = a.length + b.length + 1 := by simp; omega
  have hel := enc64_length (a ++ [58] ++ b)
  refine PureAt.intro go10 Tryd.func10 rfl rfl fun hp => ?_
  refine (fun (hk : ∀ w, Hp w0 [] [] w → K _ _ _ _ _ w) => hk w0 hp) fun w hp => ?_
  refine K_seq ?_
  refine K_region ?_
  refine W_assign rfl rfl ?_
  refine W_nil ?_
  refine N_then_k ?_
  refine K_seq ?_
  refine K_region ?_
  refine W_move rfl rfl ?_
  refine W_sadd rfl rfl ?_ rfl ?_
  (focus (first | omega | (simp only [List.length_append, List.length_cons, List.length_nil, List.length_drop, List.length_take] at *; omega) | (simp; omega)))
  refine W_move rfl rfl ?_
  refine W_sadd rfl rfl ?_ rfl ?_
  (focus (first | omega | (simp only [List.length_append, List.length_cons, List.length_nil, List.length_drop, List.length_take] at *; omega) | (simp; omega)))
  refine W_conv_sb (a := a ++ [58] ++ b) hp Tryd.underlying9 Tryd.underlying42 Tryd.underlying5 rfl (by omega) rfl ?_
  clear hp; intro bc cp zs fz w hzs hcm hfz hp
  refine W_acall hp rfl ((rencode_spec w (a ++ [58] ++ b) _ _ (Rd.own hp List.mem_cons_self (List.prefix_append _ _)) (by omega))) rfl ?_
  clear hp; intro w hp
  refine W_sadd rfl rfl ?_ rfl ?_
  (focus (first | omega | (simp only [List.length_append, List.length_cons, List.length_nil, List.length_drop, List.length_take] at *; omega) | (simp; omega)))
  refine W_assign rfl rfl ?_
  refine W_nil ?_
  refine N_then_k ?_
  refine K_ret ?_
  refine N_done1 (.inr rfl) rfl rfl ?_
  exact ⟨_, rfl, rfl, hp.nil⟩

end Go.Proofs.YtbdmaiipohfnaaaDoor
