/-
  Law CredVerifies, walked.
-/
import Derived.Test.YtbdmaiipohfnaaaDoorAwk
import Derived.Test.YtbdmaiipohfnaaaDoorCrdF
import Derived.Test.YtbdmaiipohfnaaaDoorShaZ
namespace Go.Proofs.YtbdmaiipohfnaaaDoor
open Go.Sx Go.RowKit
set_option linter.unusedVariables false
set_option linter.unusedSimpArgs false
set_option maxRecDepth 100000

theorem userF_all {U : List Usr} {nm : List UInt8} (h : userF U nm = none) : userF U nm = none := h

theorem ruser_spec (w0 : World) (vh vi x0 x1 x2 x3 : Value) (U : List Usr) (Au : Option Addr) (cu : Nat) (hru : Rd w0 (.slice Au U.length cu) U.length (usrC U)) (hun : U.length ≤ 1000000000) (nm : List UInt8) : RetB Tryd.prog 29 [.agg #[vh, .slice Au U.length cu, vi, x0, x1, x2, x3], .string ⟨nm.toArray⟩] (fun v G => G = [] ∧ ((v = .int .i64 (-1) ∧ userF U nm = none) ∨ ∃ (i : Nat) (u : Usr), v = .int .i64 (i : Int) ∧ U[i]? = some u ∧ userF U nm = some u)) w0 := by
  refine RetB.intro go29 Tryd.func29 rfl rfl fun hp => ?_
  refine (fun (hk : ∀ w, Hp w0 [] [] w → K _ _ _ _ _ w) => hk w0 hp) fun w hp => ?_
  refine K_seq ?_
  refine K_region ?_
  refine W_box hp rfl rfl rfl ?_
  clear hp; intro b2 w hp
  refine W_assign rfl rfl ?_
  refine W_nil ?_
  refine N_then_k ?_
  refine K_seq ?_
  refine K_seq ?_
  refine K_region ?_
  refine W_assign rfl rfl ?_
  refine W_nil ?_
  refine N_then_k ?_
  refine K_block ?_
  refine K_loop (σ := Nat) [4, 5, 6, 7, 8, 9, 10, 11, 12, 13, 14, 15, 16, 17, 18, 19, 20, 21]
      (fun k => [(5, .int .i64 k)])
      (fun k w => Hp w0 [] [(b2, .cells [vh, .slice Au U.length cu, vi, x0, x1, x2, x3].toArray 34)] w ∧ k ≤ U.length ∧ userF (U.take k) nm = none)
      (fun k => U.length - k) (0) ?_ ?_ ?_
  · repeat' (first | exact sub_lst_nil (sub_nil _) | refine sub_lst rfl ?_ | (refine sub_lst_eq rfl ?_ ?_; · first | rfl | (simp; done) | (congr 1; omega)))
  · exact ⟨hp, Nat.zero_le _, by simp [userF]⟩
  · intro k w hJ
    clear hp
    obtain ⟨hp, hle, hno⟩ := hJ
    rcases Nat.lt_or_ge k U.length with hlt | hge
    all_goals (
     refine K_seq ?_
     refine K_seq ?_
     refine K_region ?_
     refine W_move rfl rfl ?_
     refine W_fieldAddr Tryd.underlying34 rfl sz30 rfl rfl ?_
     refine W_load_s Tryd.underlying30 rfl rfl (by first | exact hp.cellF (by first | exact List.mem_cons_self | exact .tail _ (.head _) | exact .tail _ (.tail _ (.head _)) | exact .tail _ (.tail _ (.tail _ (.head _))) | exact .tail _ (.tail _ (.tail _ (.tail _ (.head _)))) | exact .tail _ (.tail _ (.tail _ (.tail _ (.tail _ (.head _))))) | exact List.mem_append_right _ (.head _) | exact List.mem_append_right _ (.tail _ (.head _)) | exact List.mem_append_right _ (.tail _ (.tail _ (.head _))) | exact .tail _ (List.mem_append_right _ (.head _)) | exact .tail _ (List.mem_append_right _ (.tail _ (.head _))) | assumption | (repeat (first | exact List.mem_cons_self | apply List.mem_append_right | apply List.mem_cons_of_mem))) rfl | exact hp.cellM (by first | exact List.mem_cons_self | exact .tail _ (.head _) | exact .tail _ (.tail _ (.head _)) | exact .tail _ (.tail _ (.tail _ (.head _))) | exact .tail _ (.tail _ (.tail _ (.tail _ (.head _)))) | exact .tail _ (.tail _ (.tail _ (.tail _ (.tail _ (.head _))))) | exact List.mem_append_right _ (.head _) | exact List.mem_append_right _ (.tail _ (.head _)) | exact List.mem_append_right _ (.tail _ (.tail _ (.head _))) | exact .tail _ (List.mem_append_right _ (.head _)) | exact .tail _ (List.mem_append_right _ (.tail _ (.head _))) | assumption | (repeat (first | exact List.mem_cons_self | apply List.mem_append_right | apply List.mem_cons_of_mem))) rfl | exact hp.cell_old0 ‹_› | (refine hp.cell_old0 ?_; assumption) | (apply hp.cellF (by assumption); rfl)) rfl ?_
     refine W_len_sl Tryd.underlying30 rfl rfl ?_
     first
       | (refine W_lss_t rfl rfl ?_ rfl ?_; (focus (omega)))
       | (refine W_lss_f rfl rfl ?_ rfl ?_; (focus (omega)))
       | (refine W_lss rfl rfl rfl ?_)
     refine W_nil ?_
     refine N_then_k ?_
     first
       | refine K_cond_d rfl (fun hc1 => ?_) (fun hc1 => ?_)
       | refine K_cond_n rfl (fun hc1 => ?_) (fun hc1 => ?_)
       | refine K_cond_nb rfl (fun hc1 => ?_) (fun hc1 => ?_)
       | refine K_cond_t rfl (fun hc1 => ?_) (fun hc1 => ?_)
     · try (exfalso; first | omega | (simp only [Bool.false_eq_true, reduceCtorEq] at hc1; done) | (refine absurd hc1 ?_; with_reducible assumption) | (refine absurd ?_ hc1; with_reducible assumption))
       all_goals (
        refine K_skip ?_
        refine N_then_k ?_
        refine K_seq ?_
        refine K_block ?_
        refine K_seq ?_
        obtain ⟨u, hu⟩ : ∃ u, U[k]? = some u := ⟨_, List.getElem?_eq_getElem (by assumption)⟩
        obtain ⟨hu1, hu2, hu3⟩ := usrC_at hu
        obtain ⟨bb, oo, rfl⟩ := hru.some (by intro e; rw [e] at hu1; simp at hu1)
        have hu1c := hru.cell hu1
        refine K_region ?_
        refine W_fieldAddr Tryd.underlying34 rfl sz30 rfl rfl ?_
        refine W_load_s Tryd.underlying30 rfl rfl (by first | exact hp.cellF (by first | exact List.mem_cons_self | exact .tail _ (.head _) | exact .tail _ (.tail _ (.head _)) | exact .tail _ (.tail _ (.tail _ (.head _))) | exact .tail _ (.tail _ (.tail _ (.tail _ (.head _)))) | exact .tail _ (.tail _ (.tail _ (.tail _ (.tail _ (.head _))))) | exact List.mem_append_right _ (.head _) | exact List.mem_append_right _ (.tail _ (.head _)) | exact List.mem_append_right _ (.tail _ (.tail _ (.head _))) | exact .tail _ (List.mem_append_right _ (.head _)) | exact .tail _ (List.mem_append_right _ (.tail _ (.head _))) | assumption | (repeat (first | exact List.mem_cons_self | apply List.mem_append_right | apply List.mem_cons_of_mem))) rfl | exact hp.cellM (by first | exact List.mem_cons_self | exact .tail _ (.head _) | exact .tail _ (.tail _ (.head _)) | exact .tail _ (.tail _ (.tail _ (.head _))) | exact .tail _ (.tail _ (.tail _ (.tail _ (.head _)))) | exact .tail _ (.tail _ (.tail _ (.tail _ (.tail _ (.head _))))) | exact List.mem_append_right _ (.head _) | exact List.mem_append_right _ (.tail _ (.head _)) | exact List.mem_append_right _ (.tail _ (.tail _ (.head _))) | exact .tail _ (List.mem_append_right _ (.head _)) | exact .tail _ (List.mem_append_right _ (.tail _ (.head _))) | assumption | (repeat (first | exact List.mem_cons_self | apply List.mem_append_right | apply List.mem_cons_of_mem))) rfl | exact hp.cell_old0 ‹_› | (refine hp.cell_old0 ?_; assumption) | (apply hp.cellF (by assumption); rfl)) rfl ?_
        refine W_move rfl rfl ?_
        refine W_indexAddr_sl Tryd.underlying30 sz38 rfl rfl ?_ ?_ rfl ?_
        (focus (omega))
        (focus (first | omega | (simp; done) | (simp; omega)))
        refine W_fieldAddr Tryd.underlying38 rfl sz9 rfl rfl ?_
        refine W_load_s Tryd.underlying9 rfl rfl (by exact hp.cell_old0 (show w0.cell? ⟨bb, oo + (k : Int).toNat * 3 + 0, none⟩ = some (strV u.1) by rw [show oo + (k : Int).toNat * 3 + 0 = oo + (3 * k + 0) by omega]; exact hu1c)) rfl ?_
        refine W_move rfl rfl ?_
        first
          | (refine W_seql_t rfl rfl ?_ rfl ?_; (focus (first | rfl | assumption)))
          | (refine W_seql_f rfl rfl ?_ rfl ?_; (focus (first | assumption | decide | exact List.cons_ne_nil _ _)))
          | (refine W_seql rfl rfl rfl ?_)
        refine W_nil ?_
        refine N_then_k ?_
        first
          | refine K_cond_d rfl (fun hc2 => ?_) (fun hc2 => ?_)
          | refine K_cond_n rfl (fun hc2 => ?_) (fun hc2 => ?_)
          | refine K_cond_nb rfl (fun hc2 => ?_) (fun hc2 => ?_)
          | refine K_cond_t rfl (fun hc2 => ?_) (fun hc2 => ?_)
        · try (exfalso; first | omega | (simp only [Bool.false_eq_true, reduceCtorEq] at hc2; done) | (refine absurd hc2 ?_; with_reducible assumption) | (refine absurd ?_ hc2; with_reducible assumption))
          all_goals (
           refine K_seq ?_
           refine K_region ?_
           refine W_move rfl rfl ?_
           refine W_assign rfl rfl ?_
           refine W_nil ?_
           refine N_then_k ?_
           refine K_ret ?_
           refine N_block_ret ?_
           refine N_then_ret ?_
           refine N_then_ret ?_
           refine N_block_ret ?_
           refine N_then_ret ?_
           refine N_done1 (.inr rfl) rfl rfl ?_
           first
             | exact ⟨_, rfl, [], hp.nil, rfl, .inr ⟨k, u, rfl, hu, userF_take hu hno (by assumption)⟩⟩
             | (rw [List.take_of_length_le hge] at hno; exact ⟨_, rfl, [], hp.nil, rfl, .inl ⟨rfl, hno⟩⟩))
        · try (exfalso; first | omega | (simp only [Bool.false_eq_true, reduceCtorEq] at hc2; done) | (refine absurd hc2 ?_; with_reducible assumption) | (refine absurd ?_ hc2; with_reducible assumption))
          all_goals (
           refine K_skip ?_
           refine N_block_normal ?_
           refine N_then_k ?_
           refine K_region ?_
           refine W_move rfl rfl ?_
           first
             | (refine W_add rfl rfl (wr_i64 ?_) rfl ?_; (focus (omega)))
             | (refine W_add rfl rfl rfl rfl ?_)
           refine W_assign rfl rfl ?_
           refine W_nil ?_
           refine N_again (k + 1) (sub_end ?_ ?_) ?_ ?_
           · repeat' (first | exact sub_lst_nil (sub_nil _) | refine sub_lst rfl ?_ | (refine sub_lst_eq rfl ?_ ?_; · first | rfl | (simp; done) | (congr 1; omega)))
           · repeat' (first | exact sub_refl _ | exact sub_strip _ _ | refine sub_s_cons rfl ?_ | refine sub_s_lst rfl ?_ | refine sub_s_strip rfl ?_)
           · exact ⟨hp, hlt, userF_more hu hno (by assumption)⟩
           · omega))
     · try (exfalso; first | omega | (simp only [Bool.false_eq_true, reduceCtorEq] at hc1; done) | (refine absurd hc1 ?_; with_reducible assumption) | (refine absurd ?_ hc1; with_reducible assumption))
       all_goals (
        refine K_exit ?_
        refine N_then_exit ?_
        refine N_then_exit ?_
        refine N_block_exit ?_
        refine N_then_k ?_
        refine K_seq ?_
        refine K_region ?_
        refine W_assign rfl rfl ?_
        refine W_nil ?_
        refine N_then_k ?_
        refine K_ret ?_
        refine N_done1 (.inr rfl) rfl rfl ?_
        first
          | exact ⟨_, rfl, [], hp.nil, rfl, .inr ⟨k, u, rfl, hu, userF_take hu hno (by assumption)⟩⟩
          | (rw [List.take_of_length_le hge] at hno; exact ⟨_, rfl, [], hp.nil, rfl, .inl ⟨rfl, hno⟩⟩)))

theorem rverify_spec (w0 : World) (vh vi x0 x1 x2 x3 : Value) (U : List Usr) (Au : Option Addr) (cu : Nat) (hru : Rd w0 (.slice Au U.length cu) U.length (usrC U)) (hun : U.length ≤ 1000000000) (nm pw : List UInt8) (hn : nm.length ≤ 1000) (hw : pw.length ≤ 1000) (hU : ∀ u ∈ U, u.2.1.length ≤ 1000 ∧ u.2.2.length ≤ 100000) : PureAt Tryd.prog 14 [.agg #[vh, .slice Au U.length cu, vi, x0, x1, x2, x3], .string ⟨nm.toArray⟩, .string ⟨pw.toArray⟩] (.bool (verF U nm pw)) w0 := by
  refine PureAt.intro go14 Tryd.func14 rfl rfl fun hp => ?_
  refine (fun (hk : ∀ w, Hp w0 [] [] w → K _ _ _ _ _ w) => hk w0 hp) fun w hp => ?_
  refine K_seq ?_
  refine K_region ?_
  refine W_box hp rfl rfl rfl ?_
  clear hp; intro b3 w hp
  refine W_assign rfl rfl ?_
  refine W_nil ?_
  refine N_then_k ?_
  refine K_seq ?_
  refine K_region ?_
  refine W_load_own Tryd.underlying34 rfl sz34 rfl hp (by first | exact List.mem_cons_self | exact .tail _ (.head _) | exact .tail _ (.tail _ (.head _)) | exact .tail _ (.tail _ (.tail _ (.head _))) | exact .tail _ (.tail _ (.tail _ (.tail _ (.head _)))) | exact .tail _ (.tail _ (.tail _ (.tail _ (.tail _ (.head _))))) | exact List.mem_append_right _ (.head _) | exact List.mem_append_right _ (.tail _ (.head _)) | exact List.mem_append_right _ (.tail _ (.tail _ (.head _))) | exact .tail _ (List.mem_append_right _ (.head _)) | exact .tail _ (List.mem_append_right _ (.tail _ (.head _))) | assumption | (repeat (first | exact List.mem_cons_self | apply List.mem_append_right | apply List.mem_cons_of_mem))) rfl rfl rfl ?_
  refine W_move rfl rfl ?_
  refine W_bcall hp rfl ((ruser_spec w vh vi x0 x1 x2 x3 U Au cu (hru.keep hp) hun nm)) rfl ?_
  clear hp; intro v10 G10 w r10 hp
  obtain ⟨rfl, hr10⟩ := r10
  rw [List.nil_append] at hp
  refine W_assign rfl rfl ?_
  refine W_nil ?_
  refine N_then_k ?_
  refine K_seq ?_
  refine K_quiet hm hp (by kernel_rfl) ?_
  clear hp
  rcases hr10 with ⟨rfl, hn⟩ | ⟨i, u, rfl, hi, hu⟩
  all_goals try (have hil := (List.getElem?_eq_some_iff.1 hi).1; obtain ⟨hu1, hu2, hu3⟩ := usrC_at hi; obtain ⟨bb, oo, rfl⟩ := hru.some (by intro e; rw [e] at hu1; simp at hu1); have hu2c := hru.cell hu2; have hu3c := hru.cell hu3)
  all_goals (
   refine Wq_val (fun w hp => R_move rfl) rfl ?_
   first
     | (refine Wq_val (fun w hp => R_geq_t rfl rfl ?_) rfl ?_; (focus (omega)))
     | (refine Wq_val (fun w hp => R_geq_f rfl rfl ?_) rfl ?_; (focus (omega)))
     | (refine Wq_val (fun w hp => R_geq rfl rfl) rfl ?_)
   refine Wq_val (fun w hp => R_move rfl) rfl ?_
   first
     | refine Wq_guard_lit_t rfl ?_
     | refine Wq_guard_lit_f rfl ?_
     | refine Wq_guard_lit_u rfl ?_
     | refine Wq_guard_split_d rfl rfl rfl (fun hg1 => ?_) (fun hg1 => ?_)
     | refine Wq_guard_split_n rfl rfl rfl (fun hg1 => ?_) (fun hg1 => ?_)
     | refine Wq_guard_split_nb rfl rfl rfl (fun hg1 => ?_) (fun hg1 => ?_)
     | refine Wq_guard_split rfl rfl rfl (fun hg1 => ?_) (fun hg1 => ?_)
   all_goals try (exfalso; first | omega | (simp only [Bool.false_eq_true, reduceCtorEq] at hg1; done) | (refine absurd hg1 ?_; with_reducible assumption) | (refine absurd ?_ hg1; with_reducible assumption))
   all_goals (
    first
      | (iterate 16 refine Wq_guard_no rfl rfl rfl ?_)
      | (iterate 16 refine Wq_guard_un rfl rfl ?_)
      | (refine Wq_guard_yes rfl ?_
         refine Wq_val (fun w hp => R_fieldAddr Tryd.underlying34 rfl sz30 rfl) rfl ?_
         refine Wq_guard_yes rfl ?_
         refine Wq_val (fun w hp => R_load_s Tryd.underlying30 rfl rfl (by first | exact hp.cellF (by first | exact List.mem_cons_self | exact .tail _ (.head _) | exact .tail _ (.tail _ (.head _)) | exact .tail _ (.tail _ (.tail _ (.head _))) | exact .tail _ (.tail _ (.tail _ (.tail _ (.head _)))) | exact .tail _ (.tail _ (.tail _ (.tail _ (.tail _ (.head _))))) | exact List.mem_append_right _ (.head _) | exact List.mem_append_right _ (.tail _ (.head _)) | exact List.mem_append_right _ (.tail _ (.tail _ (.head _))) | exact .tail _ (List.mem_append_right _ (.head _)) | exact .tail _ (List.mem_append_right _ (.tail _ (.head _))) | assumption | (repeat (first | exact List.mem_cons_self | apply List.mem_append_right | apply List.mem_cons_of_mem))) rfl | exact hp.cellM (by first | exact List.mem_cons_self | exact .tail _ (.head _) | exact .tail _ (.tail _ (.head _)) | exact .tail _ (.tail _ (.tail _ (.head _))) | exact .tail _ (.tail _ (.tail _ (.tail _ (.head _)))) | exact .tail _ (.tail _ (.tail _ (.tail _ (.tail _ (.head _))))) | exact List.mem_append_right _ (.head _) | exact List.mem_append_right _ (.tail _ (.head _)) | exact List.mem_append_right _ (.tail _ (.tail _ (.head _))) | exact .tail _ (List.mem_append_right _ (.head _)) | exact .tail _ (List.mem_append_right _ (.tail _ (.head _))) | assumption | (repeat (first | exact List.mem_cons_self | apply List.mem_append_right | apply List.mem_cons_of_mem))) rfl | exact hp.cell_old0 ‹_› | (refine hp.cell_old0 ?_; assumption) | (apply hp.cellF (by assumption); rfl))) rfl ?_
         refine Wq_guard_yes rfl ?_
         refine Wq_val (fun w hp => R_move rfl) rfl ?_
         refine Wq_guard_yes rfl ?_
         refine Wq_val (fun w hp => R_indexAddr_sl Tryd.underlying30 sz38 rfl rfl ?_ ?_) rfl ?_
         (focus (omega))
         (focus (first | omega | (simp; done) | (simp; omega)))
         refine Wq_guard_yes rfl ?_
         refine Wq_val (fun w hp => R_fieldAddr Tryd.underlying38 rfl sz9 rfl) rfl ?_
         refine Wq_guard_yes rfl ?_
         refine Wq_val (fun w hp => R_load_s Tryd.underlying9 rfl rfl (by exact hp.cell_old0 (show w0.cell? ⟨bb, oo + (i : Int).toNat * 3 + 1, none⟩ = some (strV u.2.1) by rw [show oo + (i : Int).toNat * 3 + 1 = oo + (3 * i + 1) by omega]; exact hu2c))) rfl ?_
         refine Wq_guard_yes rfl ?_
         refine Wq_val (fun w hp => R_move rfl) rfl ?_
         refine Wq_guard_yes rfl ?_
         refine Wq_val (fun w hp => R_move rfl) rfl ?_
         refine Wq_guard_yes rfl ?_
         refine Wq_acall rfl (fun w hp => (rsalted_spec w u.2.1 nm pw (hU u (List.mem_of_getElem? hi)).1 (by omega) (by omega))) rfl ?_
         refine Wq_guard_yes rfl ?_
         refine Wq_val (fun w hp => R_fieldAddr Tryd.underlying34 rfl sz30 rfl) rfl ?_
         refine Wq_guard_yes rfl ?_
         refine Wq_val (fun w hp => R_load_s Tryd.underlying30 rfl rfl (by first | exact hp.cellF (by first | exact List.mem_cons_self | exact .tail _ (.head _) | exact .tail _ (.tail _ (.head _)) | exact .tail _ (.tail _ (.tail _ (.head _))) | exact .tail _ (.tail _ (.tail _ (.tail _ (.head _)))) | exact .tail _ (.tail _ (.tail _ (.tail _ (.tail _ (.head _))))) | exact List.mem_append_right _ (.head _) | exact List.mem_append_right _ (.tail _ (.head _)) | exact List.mem_append_right _ (.tail _ (.tail _ (.head _))) | exact .tail _ (List.mem_append_right _ (.head _)) | exact .tail _ (List.mem_append_right _ (.tail _ (.head _))) | assumption | (repeat (first | exact List.mem_cons_self | apply List.mem_append_right | apply List.mem_cons_of_mem))) rfl | exact hp.cellM (by first | exact List.mem_cons_self | exact .tail _ (.head _) | exact .tail _ (.tail _ (.head _)) | exact .tail _ (.tail _ (.tail _ (.head _))) | exact .tail _ (.tail _ (.tail _ (.tail _ (.head _)))) | exact .tail _ (.tail _ (.tail _ (.tail _ (.tail _ (.head _))))) | exact List.mem_append_right _ (.head _) | exact List.mem_append_right _ (.tail _ (.head _)) | exact List.mem_append_right _ (.tail _ (.tail _ (.head _))) | exact .tail _ (List.mem_append_right _ (.head _)) | exact .tail _ (List.mem_append_right _ (.tail _ (.head _))) | assumption | (repeat (first | exact List.mem_cons_self | apply List.mem_append_right | apply List.mem_cons_of_mem))) rfl | exact hp.cell_old0 ‹_› | (refine hp.cell_old0 ?_; assumption) | (apply hp.cellF (by assumption); rfl))) rfl ?_
         refine Wq_guard_yes rfl ?_
         refine Wq_val (fun w hp => R_move rfl) rfl ?_
         refine Wq_guard_yes rfl ?_
         refine Wq_val (fun w hp => R_indexAddr_sl Tryd.underlying30 sz38 rfl rfl ?_ ?_) rfl ?_
         (focus (omega))
         (focus (first | omega | (simp; done) | (simp; omega)))
         refine Wq_guard_yes rfl ?_
         refine Wq_val (fun w hp => R_fieldAddr Tryd.underlying38 rfl sz9 rfl) rfl ?_
         refine Wq_guard_yes rfl ?_
         refine Wq_val (fun w hp => R_load_s Tryd.underlying9 rfl rfl (by exact hp.cell_old0 (show w0.cell? ⟨bb, oo + (i : Int).toNat * 3 + 2, none⟩ = some (strV u.2.2) by rw [show oo + (i : Int).toNat * 3 + 2 = oo + (3 * i + 2) by omega]; exact hu3c))) rfl ?_
         refine Wq_guard_yes rfl ?_
         first
           | (refine Wq_val (fun w hp => R_seql_t rfl rfl ?_) rfl ?_; (focus (first | rfl | assumption)))
           | (refine Wq_val (fun w hp => R_seql_f rfl rfl ?_) rfl ?_; (focus (first | assumption | decide | exact List.cons_ne_nil _ _)))
           | (refine Wq_val (fun w hp => R_seql rfl rfl) rfl ?_))
    first
      | (refine Wq_val (fun w hp => R_pick_t rfl rfl) rfl ?_)
      | (refine Wq_val (fun w hp => R_pick_f rfl rfl) rfl ?_)
      | (refine Wq_val (fun w hp => R_pick_b rfl rfl rfl) rfl ?_)
    refine Wq_val (fun w hp => R_assign rfl) rfl ?_
    refine Wq_end ?_
    intro w hp
    refine N_then_k ?_
    refine K_ret ?_
    refine N_done1 (.inr rfl) rfl rfl ?_
    refine ⟨_, rfl, congrArg Value.bool ?_, hp.nil⟩
    unfold verF
    first
      | (rw [hn]; rfl)
      | (rw [hu]; rfl)
      | (rw [hu]; simp [usr0])))

theorem CredVerifies_walk (w0 : World) (hK : Roots w0) (vi : List UInt8) (x0 x1 x2 x3 : Value) (U : List Usr) (Au : Option Addr) (cu : Nat) (hru : Rd w0 (.slice Au U.length cu) U.length (usrC U)) (hun : U.length ≤ 9223372036854775807) (Ah : Option Addr) (ch : Nat) (R : List (List Value)) (hrh : Rd w0 (.slice Ah R.length ch) R.length R.flatten) (hRn : R.length ≤ 9223372036854775807) (hH : ∀ cs ∈ R, HostAt w0 cs) (nm pw : List UInt8) : PureAt Tryd.prog 5 [.agg #[.slice Ah R.length ch, .slice Au U.length cu, strV vi, x0, x1, x2, x3], .string ⟨nm.toArray⟩, .string ⟨pw.toArray⟩] (.bool true) w0 := by
  refine PureAt.intro go5 Tryd.func5 rfl rfl fun hp => ?_
  refine (fun (hk : ∀ w, Hp w0 [] [] w → K _ _ _ _ _ w) => hk w0 hp) fun w hp => ?_
  refine K_seq ?_
  refine K_region ?_
  refine W_box hp rfl rfl rfl ?_
  clear hp; intro b3 w hp
  refine W_assign rfl rfl ?_
  refine W_nil ?_
  refine N_then_k ?_
  refine K_seq ?_
  refine K_seq ?_
  refine K_region ?_
  refine W_acall hp rfl ((awake_spec w (hK.keep hp))) rfl ?_
  clear hp; intro w hp
  first
    | (refine W_not_t rfl rfl ?_)
    | (refine W_not_f rfl rfl ?_)
    | (refine W_not rfl rfl ?_)
  refine W_move rfl rfl ?_
  first
    | refine W_guard_lit_t rfl ?_
    | refine W_guard_lit_f rfl ?_
    | refine W_guard_lit_u rfl ?_
    | refine W_guard_split_d rfl rfl rfl (fun hg1 => ?_) (fun hg1 => ?_)
    | refine W_guard_split_n rfl rfl rfl (fun hg1 => ?_) (fun hg1 => ?_)
    | refine W_guard_split_nb rfl rfl rfl (fun hg1 => ?_) (fun hg1 => ?_)
    | refine W_guard_split rfl rfl rfl (fun hg1 => ?_) (fun hg1 => ?_)
  all_goals try (exfalso; first | omega | (simp only [Bool.false_eq_true, reduceCtorEq] at hg1; done) | (refine absurd hg1 ?_; with_reducible assumption) | (refine absurd ?_ hg1; with_reducible assumption))
  all_goals (
   first
     | (iterate 2 refine W_guard_no rfl rfl rfl ?_)
     | (iterate 2 refine W_guard_un rfl rfl ?_)
     | (refine W_guard_yes rfl ?_
        refine W_load_own Tryd.underlying34 rfl sz34 rfl hp (by first | exact List.mem_cons_self | exact .tail _ (.head _) | exact .tail _ (.tail _ (.head _)) | exact .tail _ (.tail _ (.tail _ (.head _))) | exact .tail _ (.tail _ (.tail _ (.tail _ (.head _)))) | exact .tail _ (.tail _ (.tail _ (.tail _ (.tail _ (.head _))))) | exact List.mem_append_right _ (.head _) | exact List.mem_append_right _ (.tail _ (.head _)) | exact List.mem_append_right _ (.tail _ (.tail _ (.head _))) | exact .tail _ (List.mem_append_right _ (.head _)) | exact .tail _ (List.mem_append_right _ (.tail _ (.head _))) | assumption | (repeat (first | exact List.mem_cons_self | apply List.mem_append_right | apply List.mem_cons_of_mem))) rfl rfl rfl ?_
        refine W_guard_yes rfl ?_
        refine W_bcall hp rfl ((few20_spec w vi x0 x1 x2 x3 U Au cu (hru.keep hp) hun Ah ch R (hrh.keep hp) hRn (fun cs hc => by obtain ⟨n, r, u, rfl, a, b, d⟩ := hH cs hc; exact ⟨n, r, u, rfl, a.keep hp, b.keep hp, d.keep hp⟩))) rfl ?_
        clear hp; intro v11 G11 w r11 hp
        obtain ⟨rfl, fb, rfl, hfb⟩ := r11
        rw [List.nil_append] at hp)
   cases fb
   all_goals (
    first
      | (refine W_guard_no rfl rfl rfl ?_)
      | (refine W_guard_un rfl rfl ?_)
      | (refine W_guard_yes rfl ?_
         first
           | (refine W_not_t rfl rfl ?_)
           | (refine W_not_f rfl rfl ?_)
           | (refine W_not rfl rfl ?_))
    first
      | (refine W_pick_t rfl rfl rfl ?_)
      | (refine W_pick_f rfl rfl rfl ?_)
      | (refine W_pick_b rfl rfl rfl rfl ?_)
    refine W_move rfl rfl ?_
    first
      | refine W_guard_lit_t rfl ?_
      | refine W_guard_lit_f rfl ?_
      | refine W_guard_lit_u rfl ?_
      | refine W_guard_split_d rfl rfl rfl (fun hg2 => ?_) (fun hg2 => ?_)
      | refine W_guard_split_n rfl rfl rfl (fun hg2 => ?_) (fun hg2 => ?_)
      | refine W_guard_split_nb rfl rfl rfl (fun hg2 => ?_) (fun hg2 => ?_)
      | refine W_guard_split rfl rfl rfl (fun hg2 => ?_) (fun hg2 => ?_)
    all_goals try (exfalso; first | omega | (simp only [Bool.false_eq_true, reduceCtorEq] at hg2; done) | (refine absurd hg2 ?_; with_reducible assumption) | (refine absurd ?_ hg2; with_reducible assumption))
    all_goals (
     first
       | (iterate 3 refine W_guard_no rfl rfl rfl ?_)
       | (iterate 3 refine W_guard_un rfl rfl ?_)
       | (refine W_guard_yes rfl ?_
          refine W_move rfl rfl ?_
          refine W_guard_yes rfl ?_
          refine W_len_s Tryd.underlying9 rfl rfl ?_
          refine W_guard_yes rfl ?_
          first
            | (refine W_gtr_t rfl rfl ?_ rfl ?_; (focus (omega)))
            | (refine W_gtr_f rfl rfl ?_ rfl ?_; (focus (omega)))
            | (refine W_gtr rfl rfl rfl ?_))
     first
       | (refine W_pick_t rfl rfl rfl ?_)
       | (refine W_pick_f rfl rfl rfl ?_)
       | (refine W_pick_b rfl rfl rfl rfl ?_)
     refine W_move rfl rfl ?_
     first
       | refine W_guard_lit_t rfl ?_
       | refine W_guard_lit_f rfl ?_
       | refine W_guard_lit_u rfl ?_
       | refine W_guard_split_d rfl rfl rfl (fun hg3 => ?_) (fun hg3 => ?_)
       | refine W_guard_split_n rfl rfl rfl (fun hg3 => ?_) (fun hg3 => ?_)
       | refine W_guard_split_nb rfl rfl rfl (fun hg3 => ?_) (fun hg3 => ?_)
       | refine W_guard_split rfl rfl rfl (fun hg3 => ?_) (fun hg3 => ?_)
     all_goals try (exfalso; first | omega | (simp only [Bool.false_eq_true, reduceCtorEq] at hg3; done) | (refine absurd hg3 ?_; with_reducible assumption) | (refine absurd ?_ hg3; with_reducible assumption))
     all_goals (
      first
        | (iterate 3 refine W_guard_no rfl rfl rfl ?_)
        | (iterate 3 refine W_guard_un rfl rfl ?_)
        | (refine W_guard_yes rfl ?_
           refine W_move rfl rfl ?_
           refine W_guard_yes rfl ?_
           refine W_len_s Tryd.underlying9 rfl rfl ?_
           refine W_guard_yes rfl ?_
           first
             | (refine W_gtr_t rfl rfl ?_ rfl ?_; (focus (omega)))
             | (refine W_gtr_f rfl rfl ?_ rfl ?_; (focus (omega)))
             | (refine W_gtr rfl rfl rfl ?_))
      first
        | (refine W_pick_t rfl rfl rfl ?_)
        | (refine W_pick_f rfl rfl rfl ?_)
        | (refine W_pick_b rfl rfl rfl rfl ?_)
      refine W_nil ?_
      refine N_then_k ?_
      first
        | refine K_cond_d rfl (fun hc4 => ?_) (fun hc4 => ?_)
        | refine K_cond_n rfl (fun hc4 => ?_) (fun hc4 => ?_)
        | refine K_cond_nb rfl (fun hc4 => ?_) (fun hc4 => ?_)
        | refine K_cond_t rfl (fun hc4 => ?_) (fun hc4 => ?_)
      · try (exfalso; first | omega | (simp only [Bool.false_eq_true, reduceCtorEq] at hc4; done) | (refine absurd hc4 ?_; with_reducible assumption) | (refine absurd ?_ hc4; with_reducible assumption))
        all_goals (
         refine K_seq ?_
         refine K_region ?_
         refine W_acall hp rfl ((awake_spec w (hK.keep hp))) rfl ?_
         clear hp; intro w hp
         refine W_assign rfl rfl ?_
         refine W_nil ?_
         refine N_then_k ?_
         refine K_ret ?_
         refine N_then_ret ?_
         refine N_done1 (.inr rfl) rfl rfl ?_
         exact ⟨_, rfl, rfl, hp.nil⟩)
      · try (exfalso; first | omega | (simp only [Bool.false_eq_true, reduceCtorEq] at hc4; done) | (refine absurd hc4 ?_; with_reducible assumption) | (refine absurd ?_ hc4; with_reducible assumption))
        all_goals (
         refine K_skip ?_
         refine N_then_k ?_
         refine K_seq ?_
         obtain ⟨hU10, hUl⟩ := hfb rfl
         have hU : ∀ u ∈ U, u.2.1.length ≤ 1000 ∧ u.2.2.length ≤ 100000 := fun u hu => by have := hUl u hu; omega
         refine K_quiet hm hp (by kernel_rfl) ?_
         clear hp
         refine Wq_val (fun w hp => R_load_own Tryd.underlying34 rfl sz34 rfl hp (by first | exact List.mem_cons_self | exact .tail _ (.head _) | exact .tail _ (.tail _ (.head _)) | exact .tail _ (.tail _ (.tail _ (.head _))) | exact .tail _ (.tail _ (.tail _ (.tail _ (.head _)))) | exact .tail _ (.tail _ (.tail _ (.tail _ (.tail _ (.head _))))) | exact List.mem_append_right _ (.head _) | exact List.mem_append_right _ (.tail _ (.head _)) | exact List.mem_append_right _ (.tail _ (.tail _ (.head _))) | exact .tail _ (List.mem_append_right _ (.head _)) | exact .tail _ (List.mem_append_right _ (.tail _ (.head _))) | assumption | (repeat (first | exact List.mem_cons_self | apply List.mem_append_right | apply List.mem_cons_of_mem))) rfl rfl) rfl ?_
         refine Wq_val (fun w hp => R_move rfl) rfl ?_
         refine Wq_val (fun w hp => R_move rfl) rfl ?_
         refine Wq_acall rfl (fun w hp => (verify_spec w (hK.keep hp) (.slice Ah R.length ch) (strV vi) x0 x1 x2 x3 U Au cu (hru.keep hp) (by omega) nm pw (by omega) (by omega) hU)) rfl ?_
         refine Wq_val (fun w hp => R_load_own Tryd.underlying34 rfl sz34 rfl hp (by first | exact List.mem_cons_self | exact .tail _ (.head _) | exact .tail _ (.tail _ (.head _)) | exact .tail _ (.tail _ (.tail _ (.head _))) | exact .tail _ (.tail _ (.tail _ (.tail _ (.head _)))) | exact .tail _ (.tail _ (.tail _ (.tail _ (.tail _ (.head _))))) | exact List.mem_append_right _ (.head _) | exact List.mem_append_right _ (.tail _ (.head _)) | exact List.mem_append_right _ (.tail _ (.tail _ (.head _))) | exact .tail _ (List.mem_append_right _ (.head _)) | exact .tail _ (List.mem_append_right _ (.tail _ (.head _))) | assumption | (repeat (first | exact List.mem_cons_self | apply List.mem_append_right | apply List.mem_cons_of_mem))) rfl rfl) rfl ?_
         refine Wq_val (fun w hp => R_move rfl) rfl ?_
         refine Wq_val (fun w hp => R_move rfl) rfl ?_
         refine Wq_acall rfl (fun w hp => (rverify_spec w (.slice Ah R.length ch) (strV vi) x0 x1 x2 x3 U Au cu (hru.keep hp) (by omega) nm pw (by omega) (by omega) hU)) rfl ?_
         first
           | (refine Wq_val (fun w hp => R_beql_t Tryd.underlying4 rfl rfl rfl) rfl ?_)
           | (refine Wq_val (fun w hp => R_beql_f Tryd.underlying4 rfl rfl rfl) rfl ?_)
           | (refine Wq_val (fun w hp => R_beql Tryd.underlying4 rfl rfl) rfl ?_)
         refine Wq_val (fun w hp => R_assign rfl) rfl ?_
         refine Wq_end ?_
         intro w hp
         refine N_then_k ?_
         refine K_ret ?_
         refine N_done1 (.inr rfl) rfl rfl ?_
         exact ⟨_, rfl, rfl, hp.nil⟩)))))

end Go.Proofs.YtbdmaiipohfnaaaDoor
