/-
  The reference implementation of package base64, walked: encoding.
-/
import Derived.Test.YtbdmaiipohfnaaaDoorB64R
namespace Go.Proofs.YtbdmaiipohfnaaaDoor
open Go.Sx Go.RowKit
set_option linter.unusedVariables false
set_option linter.unusedSimpArgs false
set_option maxRecDepth 100000

set_option maxHeartbeats 1000000 in
theorem rencode_spec (w0 : World) (a : List UInt8) (Ao : Option Addr) (co : Nat) (hr0 : Rd w0 (.slice Ao a.length co) a.length (bytesV a)) (hl : a.length ≤ 10000) : PureAt Tryd.prog 23 [.slice Ao a.length co] (.string ⟨(enc64 a).toArray⟩) w0 := by
  have hvl := vals_length a
  have hpd : padsN a.length = (3 - a.length % 3) % 3 := rfl
  refine PureAt.intro go23 Tryd.func23 rfl rfl fun hp => ?_
  refine (fun (hk : ∀ w, Hp w0 [] [] w → K _ _ _ _ _ w) => hk w0 hp) fun w hp => ?_
  refine K_seq ?_
  refine K_region ?_
  refine W_assign rfl rfl ?_
  refine W_nil ?_
  refine N_then_k ?_
  refine K_seq ?_
  refine K_region ?_
  refine W_assign rfl rfl ?_
  refine W_nil ?_
  refine N_then_k ?_
  refine K_seq ?_
  refine K_seq ?_
  refine K_region ?_
  refine W_assign rfl rfl ?_
  refine W_nil ?_
  refine N_then_k ?_
  refine K_block ?_
  refine K_loop (σ := Nat × Value × Heap) [3, 4, 7, 8, 9, 10, 11, 12, 13, 14, 15, 16, 17, 18, 19, 20]
      (fun q => [(4, .int .i64 q.1), (3, q.2.1)])
      (fun q w => OSi 3 q.2.1 (cat 8 (nums (a.take q.1))) q.2.2 ∧ Hp w0 [] q.2.2 w ∧ q.1 ≤ a.length)
      (fun q => a.length - q.1) ((0, .slice none 0 0, [])) ?_ ?_ ?_
  · repeat' (first | exact sub_lst_nil (sub_nil _) | refine sub_lst rfl ?_ | (refine sub_lst_eq rfl ?_ ?_; · first | rfl | (simp; done) | (congr 1; omega)))
  · exact ⟨OSi.nil, hp, Nat.zero_le _⟩
  · intro ⟨k, v, Hs⟩ w hJ
    clear hp
    obtain ⟨hos, hp, hle⟩ := hJ
    simp only at hos hp hle
    change K _ _ _ _ (.lst ([(4, .int .i64 k), (3, v)]) _) _
    obtain ⟨Av, cv, rfl⟩ := hos.form
    rcases Nat.lt_or_ge k a.length with hlt | hge
    all_goals (
     refine K_seq ?_
     refine K_seq ?_
     refine K_region ?_
     refine W_move rfl rfl ?_
     refine W_move rfl rfl ?_
     refine W_len_sl Tryd.underlying42 rfl rfl ?_
     first
       | (refine W_lss_t rfl rfl ?_ rfl ?_; (focus (omega)))
       | (refine W_lss_f rfl rfl ?_ rfl ?_; (focus (omega)))
       | (refine W_lss rfl rfl rfl ?_)
     refine W_nil ?_
     refine N_then_k ?_
     first
       | refine K_cond_d rfl (fun hc1 => ?_) (fun hc1 => ?_)
       | refine K_cond_n rfl (fun hc1 => ?_) (fun hc1 => ?_)
       | refine K_cond_nb rfl (fun hc1 => ?_) (fun hc1 => ?_)
       | refine K_cond_t rfl (fun hc1 => ?_) (fun hc1 => ?_)
     · try (exfalso; first | omega | (simp only [Bool.false_eq_true, reduceCtorEq] at hc1; done) | (refine absurd hc1 ?_; with_reducible assumption) | (refine absurd ?_ hc1; with_reducible assumption))
       all_goals (
        refine K_skip ?_
        refine N_then_k ?_
        refine K_seq ?_
        refine K_block ?_
        refine K_region ?_
        obtain ⟨c, hc⟩ : ∃ c, a[k]? = some c := ⟨_, List.getElem?_eq_getElem hlt⟩
        have hu := c.toNat_lt
        obtain ⟨bb, oo, rfl⟩ := hr0.some (by intro e; have := congrArg List.length e; simp [bytesV] at this; subst this; simp at hlt)
        have hcc := hr0.cell (bytesV_at hc)
        have hcl : (cat 8 (nums (a.take k))).length ≤ 8 * a.length := by rw [cat_length]; simp [nums]; omega
        refine W_move rfl rfl ?_
        refine W_move rfl rfl ?_
        refine W_move rfl rfl ?_
        refine W_indexAddr_sl Tryd.underlying42 sz5 rfl rfl ?_ ?_ rfl ?_
        (focus (omega))
        (focus (first | omega | (simp; done) | (simp; omega)))
        refine W_load_s Tryd.underlying5 rfl rfl (by exact hp.cell_old0 (by simpa using hcc)) rfl ?_
        first
          | (refine W_conv_i Tryd.underlying5 Tryd.underlying3 rfl (wr_i64 ?_) rfl ?_; (focus (first | omega | (have := u8_lt ‹_›; omega))))
          | (refine W_conv_i Tryd.underlying5 Tryd.underlying3 rfl rfl rfl ?_)
        refine W_bcall hp rfl (bits_spec w c.toNat 8 (by omega) (by decide)) rfl ?_
        clear hp; intro v19 G19 w r19 hp
        obtain ⟨A19, c19, rfl⟩ := r19.form
        try simp only [List.append_nil] at hp
        rw [← List.append_nil Hs] at hp
        refine W_append_sl (A := G19) (B := []) (intsV (bitsN 8 c.toNat)) rfl hp rfl Tryd.underlying85 sz3 pb3 zv3 rfl rfl rfl rfl hos (r19.rd (A := []) (B := Hs) (by simpa using hp)) ?_ ?_ ?_ ?_ rfl ?_
        · simp [intsV_length]
        · exact intsV_one
        · (simp only [maxLen, bitsN_length]; omega)
        · (simp only [bitsN_length]; omega)
        clear hp; intro va20 Hs w hos hp
        replace hos := OSi.app rfl rfl hos
        obtain ⟨Aa20, ca20, rfl⟩ := hos.form
        refine W_assign rfl rfl ?_
        refine W_nil ?_
        refine N_block_normal ?_
        refine N_then_k ?_
        refine K_region ?_
        refine W_move rfl rfl ?_
        first
          | (refine W_add rfl rfl (wr_i64 ?_) rfl ?_; (focus (omega)))
          | (refine W_add rfl rfl rfl rfl ?_)
        refine W_assign rfl rfl ?_
        refine W_nil ?_
        refine N_again (k + 1, _, Hs) (sub_end ?_ ?_) ⟨by show OSi _ _ (cat 8 (nums (a.take (k + 1)))) _; rw [nums_take hc]; exact hos, by simpa using hp.drop (List.sublist_append_right _ _), hlt⟩ ?_
        · repeat' (first | exact sub_lst_nil (sub_nil _) | refine sub_lst rfl ?_ | (refine sub_lst_eq rfl ?_ ?_; · first | rfl | (simp; done) | (congr 1; omega)))
        · repeat' (first | exact sub_refl _ | exact sub_strip _ _ | refine sub_s_cons rfl ?_ | refine sub_s_lst rfl ?_ | refine sub_s_strip rfl ?_)
        · show _ < _; simp only; omega)
     · try (exfalso; first | omega | (simp only [Bool.false_eq_true, reduceCtorEq] at hc1; done) | (refine absurd hc1 ?_; with_reducible assumption) | (refine absurd ?_ hc1; with_reducible assumption))
       all_goals (
        refine K_exit ?_
        refine N_then_exit ?_
        refine N_then_exit ?_
        refine N_block_exit ?_
        refine N_then_k ?_
        refine K_seq ?_
        refine K_block ?_
        refine K_loop (σ := Nat × Value × Heap) [3, 21, 22, 23, 24, 25, 26, 27]
            (fun q => [(3, q.2.1)])
            (fun q w => OSi 3 q.2.1 (cat 8 (nums a) ++ List.replicate q.1 0) q.2.2 ∧ Hp w0 [] q.2.2 w ∧ q.1 ≤ 2 * padsN a.length)
            (fun q => 2 * padsN a.length - q.1) ((0, .slice Av (cat 8 (nums (a.take k))).length cv, Hs)) ?_ ?_ ?_
        · repeat' (first | exact sub_lst_nil (sub_nil _) | refine sub_lst rfl ?_)
        · refine ⟨?_, hp, Nat.zero_le _⟩
          rw [List.take_of_length_le hge] at hos ⊢
          simpa using hos
        · intro ⟨z, v, Hs⟩ w hJ
          clear hp
          obtain ⟨hos, hp, hle⟩ := hJ
          simp only at hos hp hle
          change K _ _ _ _ (.lst ([(3, v)]) _) _
          obtain ⟨Av, cv, rfl⟩ := hos.form
          have hL : (cat 8 (nums a) ++ List.replicate z 0).length = 8 * a.length + z := by rw [List.length_append, cat_length]; simp [nums]
          rcases Nat.lt_or_ge z (2 * padsN a.length) with hlt | hge2
          all_goals (
           refine K_seq ?_
           refine K_seq ?_
           refine K_region ?_
           refine W_move rfl rfl ?_
           refine W_len_sl Tryd.underlying85 rfl rfl ?_
           first
             | (refine W_rem rfl rfl ?_ (rem_nn ?_) rfl ?_; (focus (omega)); (focus (omega)))
             | (refine W_rem rfl rfl ?_ rfl rfl ?_; (focus (omega)))
           first
             | (refine W_neq_t rfl rfl ?_ rfl ?_; (focus (omega)))
             | (refine W_neq_f rfl rfl ?_ rfl ?_; (focus (omega)))
             | (refine W_neq rfl rfl rfl ?_)
           refine W_nil ?_
           refine N_then_k ?_
           first
             | refine K_cond_d rfl (fun hc2 => ?_) (fun hc2 => ?_)
             | refine K_cond_n rfl (fun hc2 => ?_) (fun hc2 => ?_)
             | refine K_cond_nb rfl (fun hc2 => ?_) (fun hc2 => ?_)
             | refine K_cond_t rfl (fun hc2 => ?_) (fun hc2 => ?_)
           · try (exfalso; first | omega | (simp only [Bool.false_eq_true, reduceCtorEq] at hc2; done) | (refine absurd hc2 ?_; with_reducible assumption) | (refine absurd ?_ hc2; with_reducible assumption))
             all_goals (
              refine K_skip ?_
              refine N_then_k ?_
              refine K_block ?_
              refine K_region ?_
              refine W_move rfl rfl ?_
              refine W_bslice1 hp Tryd.underlying85 sz3 zv3 rfl  rfl  (fun v0 => [v0]) rfl rfl rfl ?_
              clear hp; intro b26 w hp
              try simp only [List.append_nil] at hp
              rw [← List.append_nil Hs] at hp
              refine W_append_sl (A := [_]) (B := []) _ rfl hp rfl Tryd.underlying85 sz3 pb3 zv3 rfl rfl rfl rfl hos (Rd.own hp (by first | exact List.mem_cons_self | exact .tail _ (.head _) | exact .tail _ (.tail _ (.head _)) | exact .tail _ (.tail _ (.tail _ (.head _))) | exact .tail _ (.tail _ (.tail _ (.tail _ (.head _)))) | exact .tail _ (.tail _ (.tail _ (.tail _ (.tail _ (.head _))))) | exact List.mem_append_right _ (.head _) | exact List.mem_append_right _ (.tail _ (.head _)) | exact List.mem_append_right _ (.tail _ (.tail _ (.head _))) | exact .tail _ (List.mem_append_right _ (.head _)) | exact .tail _ (List.mem_append_right _ (.tail _ (.head _))) | assumption | (repeat (first | exact List.mem_cons_self | apply List.mem_append_right | apply List.mem_cons_of_mem))) (List.prefix_refl _)) ?_ ?_ ?_ ?_ rfl ?_
              · rfl
              · first | (simp [Value.oneCell']; done) | (simp [Value.oneCell', strV]; done)
              · (simp only [maxLen]; omega)
              · omega
              clear hp; intro va27 Hs w hos hp
              replace hos := OSi.app (b := [0]) rfl rfl hos
              obtain ⟨Aa27, ca27, rfl⟩ := hos.form
              refine W_assign rfl rfl ?_
              refine W_nil ?_
              refine N_block_normal ?_
              refine N_again (z + 1, _, Hs) (sub_end ?_ ?_) ⟨by show OSi _ _ (cat 8 (nums a) ++ List.replicate (z + 1) 0) _; rw [List.replicate_succ', ← List.append_assoc]; exact hos, by simpa using hp.drop (List.sublist_cons_self _ _), hlt⟩ ?_
              · repeat' (first | exact sub_lst_nil (sub_nil _) | refine sub_lst rfl ?_ | (refine sub_lst_eq rfl ?_ ?_; · first | rfl | (simp; done) | (congr 1; omega)))
              · repeat' (first | exact sub_refl _ | exact sub_strip _ _ | refine sub_s_cons rfl ?_ | refine sub_s_lst rfl ?_ | refine sub_s_strip rfl ?_)
              · show _ < _; simp only; omega)
           · try (exfalso; first | omega | (simp only [Bool.false_eq_true, reduceCtorEq] at hc2; done) | (refine absurd hc2 ?_; with_reducible assumption) | (refine absurd ?_ hc2; with_reducible assumption))
             all_goals (
              refine K_exit ?_
              refine N_then_exit ?_
              refine N_then_exit ?_
              refine N_block_exit ?_
              refine N_then_k ?_
              refine K_seq ?_
              rw [show z = 2 * padsN a.length by omega, ← vals_cat] at hos
              have hos3 := hos
              have hroom := OS.room hos
              have hL3 : (cat 8 (nums a) ++ List.replicate z 0) = cat 6 (vals a) := by rw [show z = 2 * padsN a.length by omega, ← vals_cat]
              rw [hL3]
              clear hL hos
              have hL4 : (cat 6 (vals a)).length = 6 * (vals a).length := cat_length 6 _
              revert hos3 hp
              generalize Hs = Hs3
              intro hp hos3
              refine K_region ?_
              refine W_assign rfl rfl ?_
              refine W_nil ?_
              refine N_then_k ?_
              refine K_seq ?_
              refine K_seq ?_
              refine K_region ?_
              refine W_assign rfl rfl ?_
              refine W_nil ?_
              refine N_then_k ?_
              refine K_block ?_
              refine K_loop (σ := Nat × Value × Heap) [5, 6, 28, 29, 30, 31, 32, 33, 34, 35, 36, 37, 38, 39, 40, 41, 42, 43, 44, 45]
                  (fun q => [(6, .int .i64 ((6 * q.1 : Nat) : Int)), (5, q.2.1)])
                  (fun q w => OSb 5 q.2.1 (((vals a).take q.1).map dg) q.2.2 ∧ Hp w0 [] (q.2.2 ++ Hs3) w ∧ q.1 ≤ (vals a).length)
                  (fun q => (vals a).length - q.1) ((0, .slice none 0 0, [])) ?_ ?_ ?_
              · repeat' (first | exact sub_lst_nil (sub_nil _) | refine sub_lst rfl ?_ | (refine sub_lst_eq rfl ?_ ?_; · first | rfl | (simp; done) | (congr 1; omega)))
              · exact ⟨OSb.nil, hp, Nat.zero_le _⟩
              · intro ⟨j, v, Hs⟩ w hJ
                clear hp
                obtain ⟨hos, hp, hle⟩ := hJ
                simp only at hos hp hle
                change K _ _ _ _ (.lst ([(6, .int .i64 ((6 * j : Nat) : Int)), (5, v)]) _) _
                obtain ⟨Av, cv, rfl⟩ := hos.form
                rcases Nat.lt_or_ge j (vals a).length with hlt | hge3
                all_goals (
                 refine K_seq ?_
                 refine K_seq ?_
                 refine K_region ?_
                 refine W_move rfl rfl ?_
                 first
                   | (refine W_add rfl rfl (wr_i64 ?_) rfl ?_; (focus (omega)))
                   | (refine W_add rfl rfl rfl rfl ?_)
                 refine W_move rfl rfl ?_
                 refine W_len_sl Tryd.underlying85 rfl rfl ?_
                 first
                   | (refine W_leq_t rfl rfl ?_ rfl ?_; (focus (omega)))
                   | (refine W_leq_f rfl rfl ?_ rfl ?_; (focus (omega)))
                   | (refine W_leq rfl rfl rfl ?_)
                 refine W_nil ?_
                 refine N_then_k ?_
                 first
                   | refine K_cond_d rfl (fun hc3 => ?_) (fun hc3 => ?_)
                   | refine K_cond_n rfl (fun hc3 => ?_) (fun hc3 => ?_)
                   | refine K_cond_nb rfl (fun hc3 => ?_) (fun hc3 => ?_)
                   | refine K_cond_t rfl (fun hc3 => ?_) (fun hc3 => ?_)
                 · try (exfalso; first | omega | (simp only [Bool.false_eq_true, reduceCtorEq] at hc3; done) | (refine absurd hc3 ?_; with_reducible assumption) | (refine absurd ?_ hc3; with_reducible assumption))
                   all_goals (
                    refine K_skip ?_
                    refine N_then_k ?_
                    refine K_seq ?_
                    refine K_block ?_
                    obtain ⟨v, hv⟩ : ∃ v, (vals a)[j]? = some v := ⟨_, List.getElem?_eq_getElem (by omega)⟩
                    have hv64 := vals_lt a v (List.mem_of_getElem? hv)
                    have hcp := cat_part (k := 6) hv
                    have hvt := vals_take hv
                    have hdl : (((vals a).take j).map dg).length ≤ 20000 := by simp; omega
                    refine K_draw (C := Hp _ _ _) [0] [1, 2, 3, 4, 5, 6, 7, 8] 9 [_] [_, _, _, _, _, _, _, _] [_, _, _] hm hp hp.drew (by kernel_rfl) rfl rfl rfl ?_
                    clear hp
                    refine Wy_val (fun w => R_move rfl) rfl ?_
                    refine Wy_end ?_
                    refine Wq_pcall rfl (digits_spec) rfl ?_
                    refine Wq_val (fun w hp => R_move rfl) rfl ?_
                    refine Wq_val (fun w hp => R_move rfl) rfl ?_
                    refine Wq_val (fun w hp => R_move rfl) rfl ?_
                    first
                      | (refine Wq_val (fun w hp => R_add rfl rfl (wr_i64 ?_)) rfl ?_; (focus (omega)))
                      | (refine Wq_val (fun w hp => R_add rfl rfl rfl) rfl ?_)
                    refine Wq_val (fun w hp => R_cut_lh Tryd.underlying85 sz3 rfl rfl rfl (by omega) (by omega) (by omega)) rfl ?_
                    refine Wq_acall rfl (fun w hp => number_spec w (bitsN 6 v) _ _ _ (by rw [bitsN_length]; omega) (by
                        have h1 := rd_cut (i := ((6 * j : Nat) : Int).toNat) (j := (((6 * j : Nat) : Int) + 6).toNat) (s := 1) (hos3.rd (A := Hs ++ []) (B := []) (by simpa using hp)) (by omega)
                        have e : ((intsV (cat 6 (vals a))).drop (((6 * j : Nat) : Int).toNat * 1)).take (((((6 * j : Nat) : Int) + 6).toNat - ((6 * j : Nat) : Int).toNat) * 1) = intsV (bitsN 6 v) := by
                          rw [show ((6 * j : Nat) : Int).toNat * 1 = 6 * j by omega, show ((((6 * j : Nat) : Int) + 6).toNat - ((6 * j : Nat) : Int).toNat) * 1 = 6 by omega, intsV, ← List.map_drop, ← List.map_take, hcp]; rfl
                        rw [e] at h1; exact h1) (by rw [bitsN_length]; decide) (bitsN_lt 6 v)) rfl ?_
                    rw [numL_bits, Nat.mod_eq_of_lt hv64]
                    refine Wq_val (fun w hp => R_index_s Tryd.underlying9 (a := D64) (b := dg v) rfl rfl (by omega) (by rw [Int.toNat_natCast]; exact D64_at hv64)) rfl ?_
                    refine Wq_tail ?_
                    intro w hp
                    refine W_bslice1 hp Tryd.underlying42 sz5 zv5 rfl  rfl  (fun v0 => [v0]) rfl rfl rfl ?_
                    clear hp; intro b44 w hp
                    try simp only [List.nil_append] at hp
                    refine W_append_sl (A := [_]) (B := Hs3) _ rfl hp rfl Tryd.underlying42 sz5 pb5 zv5 rfl rfl rfl rfl hos (Rd.own hp (by first | exact List.mem_cons_self | exact .tail _ (.head _) | exact .tail _ (.tail _ (.head _)) | exact .tail _ (.tail _ (.tail _ (.head _))) | exact .tail _ (.tail _ (.tail _ (.tail _ (.head _)))) | exact .tail _ (.tail _ (.tail _ (.tail _ (.tail _ (.head _))))) | exact List.mem_append_right _ (.head _) | exact List.mem_append_right _ (.tail _ (.head _)) | exact List.mem_append_right _ (.tail _ (.tail _ (.head _))) | exact .tail _ (List.mem_append_right _ (.head _)) | exact .tail _ (List.mem_append_right _ (.tail _ (.head _))) | assumption | (repeat (first | exact List.mem_cons_self | apply List.mem_append_right | apply List.mem_cons_of_mem))) (List.prefix_refl _)) ?_ ?_ ?_ ?_ rfl ?_
                    · rfl
                    · first | (simp [Value.oneCell']; done) | (simp [Value.oneCell', strV]; done)
                    · (simp only [maxLen]; omega)
                    · omega
                    clear hp; intro va45 Hs w hos hp
                    replace hos := OSb.snoc (c := (dg v)) hos
                    obtain ⟨Aa45, ca45, rfl⟩ := hos.form
                    refine W_assign rfl rfl ?_
                    refine W_nil ?_
                    refine N_nodie ?_
                    refine N_block_normal ?_
                    refine N_then_k ?_
                    refine K_region ?_
                    refine W_move rfl rfl ?_
                    first
                      | (refine W_add rfl rfl (wr_i64 ?_) rfl ?_; (focus (omega)))
                      | (refine W_add rfl rfl rfl rfl ?_)
                    refine W_assign rfl rfl ?_
                    refine W_nil ?_
                    refine N_again (j + 1, _, Hs) (sub_end ?_ ?_) ⟨by show OSb _ _ (((vals a).take (j + 1)).map dg) _; rw [hvt]; exact hos, by simpa using hp.drop (List.sublist_cons_self _ _), hlt⟩ ?_
                    · repeat' (first | exact sub_lst_nil (sub_nil _) | refine sub_lst rfl ?_ | (refine sub_lst_eq rfl ?_ ?_; · (refine congrArg (Value.int .i64) ?_; dsimp only; omega)))
                    · repeat' (first | exact sub_refl _ | exact sub_strip _ _ | refine sub_s_cons rfl ?_ | refine sub_s_lst rfl ?_ | refine sub_s_strip rfl ?_)
                    · show _ < _; simp only; omega)
                 · try (exfalso; first | omega | (simp only [Bool.false_eq_true, reduceCtorEq] at hc3; done) | (refine absurd hc3 ?_; with_reducible assumption) | (refine absurd ?_ hc3; with_reducible assumption))
                   all_goals (
                    refine K_exit ?_
                    refine N_then_exit ?_
                    refine N_then_exit ?_
                    refine N_block_exit ?_
                    refine N_then_k ?_
                    refine K_seq ?_
                    refine K_block ?_
                    refine K_loop (σ := Nat × Value × Heap) [5, 46, 47, 48, 49, 50, 51, 52]
                        (fun q => [(5, q.2.1)])
                        (fun q w => OSb 5 q.2.1 ((vals a).map dg ++ List.replicate q.1 61) q.2.2 ∧ Hp w0 [] q.2.2 w ∧ q.1 ≤ padsN a.length)
                        (fun q => padsN a.length - q.1) ((0, .slice Av (((vals a).take j).map dg).length cv, Hs)) ?_ ?_ ?_
                    · repeat' (first | exact sub_lst_nil (sub_nil _) | refine sub_lst rfl ?_)
                    · refine ⟨?_, hp.drop (List.sublist_append_left _ _), Nat.zero_le _⟩
                      rw [List.take_of_length_le hge3] at hos ⊢
                      simpa using hos
                    · intro ⟨z, v, Hs⟩ w hJ
                      clear hp
                      obtain ⟨hos, hp, hle⟩ := hJ
                      simp only at hos hp hle
                      change K _ _ _ _ (.lst ([(5, v)]) _) _
                      obtain ⟨Av, cv, rfl⟩ := hos.form
                      have hL : ((vals a).map dg ++ List.replicate z 61).length = (vals a).length + z := by simp
                      rcases Nat.lt_or_ge z (padsN a.length) with hlt | hge4
                      all_goals (
                       refine K_seq ?_
                       refine K_seq ?_
                       refine K_region ?_
                       refine W_move rfl rfl ?_
                       refine W_len_sl Tryd.underlying42 rfl rfl ?_
                       first
                         | (refine W_rem rfl rfl ?_ (rem_nn ?_) rfl ?_; (focus (omega)); (focus (omega)))
                         | (refine W_rem rfl rfl ?_ rfl rfl ?_; (focus (omega)))
                       first
                         | (refine W_neq_t rfl rfl ?_ rfl ?_; (focus (omega)))
                         | (refine W_neq_f rfl rfl ?_ rfl ?_; (focus (omega)))
                         | (refine W_neq rfl rfl rfl ?_)
                       refine W_nil ?_
                       refine N_then_k ?_
                       first
                         | refine K_cond_d rfl (fun hc4 => ?_) (fun hc4 => ?_)
                         | refine K_cond_n rfl (fun hc4 => ?_) (fun hc4 => ?_)
                         | refine K_cond_nb rfl (fun hc4 => ?_) (fun hc4 => ?_)
                         | refine K_cond_t rfl (fun hc4 => ?_) (fun hc4 => ?_)
                       · try (exfalso; first | omega | (simp only [Bool.false_eq_true, reduceCtorEq] at hc4; done) | (refine absurd hc4 ?_; with_reducible assumption) | (refine absurd ?_ hc4; with_reducible assumption))
                         all_goals (
                          refine K_skip ?_
                          refine N_then_k ?_
                          refine K_block ?_
                          refine K_region ?_
                          refine W_move rfl rfl ?_
                          refine W_bslice1 hp Tryd.underlying42 sz5 zv5 rfl  rfl  (fun v0 => [v0]) rfl rfl rfl ?_
                          clear hp; intro b51 w hp
                          try simp only [List.append_nil] at hp
                          rw [← List.append_nil Hs] at hp
                          refine W_append_sl (A := [_]) (B := []) _ rfl hp rfl Tryd.underlying42 sz5 pb5 zv5 rfl rfl rfl rfl hos (Rd.own hp (by first | exact List.mem_cons_self | exact .tail _ (.head _) | exact .tail _ (.tail _ (.head _)) | exact .tail _ (.tail _ (.tail _ (.head _))) | exact .tail _ (.tail _ (.tail _ (.tail _ (.head _)))) | exact .tail _ (.tail _ (.tail _ (.tail _ (.tail _ (.head _))))) | exact List.mem_append_right _ (.head _) | exact List.mem_append_right _ (.tail _ (.head _)) | exact List.mem_append_right _ (.tail _ (.tail _ (.head _))) | exact .tail _ (List.mem_append_right _ (.head _)) | exact .tail _ (List.mem_append_right _ (.tail _ (.head _))) | assumption | (repeat (first | exact List.mem_cons_self | apply List.mem_append_right | apply List.mem_cons_of_mem))) (List.prefix_refl _)) ?_ ?_ ?_ ?_ rfl ?_
                          · rfl
                          · first | (simp [Value.oneCell']; done) | (simp [Value.oneCell', strV]; done)
                          · (simp only [maxLen]; omega)
                          · omega
                          clear hp; intro va52 Hs w hos hp
                          replace hos := OSb.snoc (c := 61) hos
                          obtain ⟨Aa52, ca52, rfl⟩ := hos.form
                          refine W_assign rfl rfl ?_
                          refine W_nil ?_
                          refine N_block_normal ?_
                          refine N_again (z + 1, _, Hs) (sub_end ?_ ?_) ⟨by show OSb _ _ ((vals a).map dg ++ List.replicate (z + 1) 61) _; rw [List.replicate_succ', ← List.append_assoc]; exact hos, by simpa using hp.drop (List.sublist_cons_self _ _), hlt⟩ ?_
                          · repeat' (first | exact sub_lst_nil (sub_nil _) | refine sub_lst rfl ?_ | (refine sub_lst_eq rfl ?_ ?_; · first | rfl | (simp; done) | (congr 1; omega)))
                          · repeat' (first | exact sub_refl _ | exact sub_strip _ _ | refine sub_s_cons rfl ?_ | refine sub_s_lst rfl ?_ | refine sub_s_strip rfl ?_)
                          · show _ < _; simp only; omega)
                       · try (exfalso; first | omega | (simp only [Bool.false_eq_true, reduceCtorEq] at hc4; done) | (refine absurd hc4 ?_; with_reducible assumption) | (refine absurd ?_ hc4; with_reducible assumption))
                         all_goals (
                          refine K_exit ?_
                          refine N_then_exit ?_
                          refine N_then_exit ?_
                          refine N_block_exit ?_
                          refine N_then_k ?_
                          refine K_seq ?_
                          refine K_region ?_
                          refine W_move rfl rfl ?_
                          refine W_conv_bs (a := (vals a).map dg ++ List.replicate z 61) Tryd.underlying42 Tryd.underlying5 Tryd.underlying9 rfl (hos.rd (A := []) (B := []) (by simpa using hp)) rfl rfl ?_
                          refine W_assign rfl rfl ?_
                          refine W_nil ?_
                          refine N_then_k ?_
                          refine K_ret ?_
                          refine N_done1 (.inr rfl) rfl rfl ?_
                          refine ⟨_, rfl, ?_, hp.nil⟩
                          rw [show z = padsN a.length by omega]; rfl))))))))

end Go.Proofs.YtbdmaiipohfnaaaDoor
