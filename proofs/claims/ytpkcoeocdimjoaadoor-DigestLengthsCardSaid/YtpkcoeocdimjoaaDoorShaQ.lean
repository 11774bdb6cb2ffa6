/-
  digest.Parse, walked.
-/
import Derived.Test.YtpkcoeocdimjoaaDoorShaX
namespace Go.Proofs.YtpkcoeocdimjoaaDoor
open Go.Sx Go.RowKit
set_option linter.unusedVariables false
set_option linter.unusedSimpArgs false
set_option maxRecDepth 100000

theorem parse_spec (w0 : World) (s : List UInt8) (hl : s.length ≤ 9000000000000000000) : PureAt Tryd.prog 13 [.string ⟨s.toArray⟩] (.tuple #[.agg (bytesV (parseF s)).toArray, .bool (rightB s)]) w0 := by
  have hDl := unhex_length s
  refine PureAt.intro go13 Tryd.func13 rfl rfl fun hp => ?_
  refine (fun (hk : ∀ w, Hp w0 [] [] w → K _ _ _ _ _ w) => hk w0 hp) fun w hp => ?_
  refine K_seq ?_
  refine K_region ?_
  refine W_alloc hp zv23 rfl rfl ?_
  clear hp; intro b2 w hp
  refine W_assign rfl rfl ?_
  refine W_nil ?_
  refine N_then_k ?_
  refine K_seq ?_
  refine K_region ?_
  refine W_alloc hp zv23 rfl rfl ?_
  clear hp; intro b4 w hp
  refine W_nil ?_
  refine N_then_k ?_
  refine K_seq ?_
  refine K_seq ?_
  refine K_region ?_
  refine W_move rfl rfl ?_
  refine W_len_s Tryd.underlying9 rfl rfl ?_
  first
    | (refine W_neq_t rfl rfl ?_ rfl ?_; (focus (omega)))
    | (refine W_neq_f rfl rfl ?_ rfl ?_; (focus (omega)))
    | (refine W_neq rfl rfl rfl ?_)
  refine W_move rfl rfl ?_
  first
    | refine W_guard_lit_t rfl ?_
    | refine W_guard_lit_f rfl ?_
    | refine W_guard_lit_u rfl ?_
    | refine W_guard_split_d rfl rfl rfl (fun hg1 => ?_) (fun hg1 => ?_)
    | refine W_guard_split_n rfl rfl rfl (fun hg1 => ?_) (fun hg1 => ?_)
    | refine W_guard_split_nb rfl rfl rfl (fun hg1 => ?_) (fun hg1 => ?_)
    | refine W_guard_split rfl rfl rfl (fun hg1 => ?_) (fun hg1 => ?_)
  all_goals try (exfalso; first | omega | (simp only [Bool.false_eq_true, reduceCtorEq] at hg1; done) | (refine absurd hg1 ?_; with_reducible assumption) | (refine absurd ?_ hg1; with_reducible assumption))
  all_goals (
   first
     | (iterate 4 refine W_guard_no rfl rfl rfl ?_)
     | (iterate 4 refine W_guard_un rfl rfl ?_)
     | (refine W_guard_yes rfl ?_
        refine W_move rfl rfl ?_
        refine W_guard_yes rfl ?_
        refine W_pcall hp rfl (lower_spec s hl) rfl ?_
        clear hp; intro w hp
        refine W_guard_yes rfl ?_
        refine W_move rfl rfl ?_
        refine W_guard_yes rfl ?_
        first
          | (refine W_sneq_f rfl rfl ?_ rfl ?_; (focus (first | rfl | assumption)))
          | (refine W_sneq_t rfl rfl ?_ rfl ?_; (focus (first | assumption | decide | exact List.cons_ne_nil _ _)))
          | (refine W_sneq rfl rfl rfl ?_))
   first
     | (refine W_pick_t rfl rfl rfl ?_)
     | (refine W_pick_f rfl rfl rfl ?_)
     | (refine W_pick_b rfl rfl rfl rfl ?_)
   refine W_nil ?_
   refine N_then_k ?_
   first
     | refine K_cond_d rfl (fun hc2 => ?_) (fun hc2 => ?_)
     | refine K_cond_n rfl (fun hc2 => ?_) (fun hc2 => ?_)
     | refine K_cond_nb rfl (fun hc2 => ?_) (fun hc2 => ?_)
     | refine K_cond_t rfl (fun hc2 => ?_) (fun hc2 => ?_)
   · try (exfalso; first | omega | (simp only [Bool.false_eq_true, reduceCtorEq] at hc2; done) | (refine absurd hc2 ?_; with_reducible assumption) | (refine absurd ?_ hc2; with_reducible assumption))
     all_goals (
      refine K_seq ?_
      refine K_region ?_
      refine W_load_own Tryd.underlying23 rfl sz23 rfl hp (by first | exact List.mem_cons_self | exact .tail _ (.head _) | exact .tail _ (.tail _ (.head _)) | exact .tail _ (.tail _ (.tail _ (.head _))) | exact .tail _ (.tail _ (.tail _ (.tail _ (.head _)))) | exact .tail _ (.tail _ (.tail _ (.tail _ (.tail _ (.head _))))) | exact List.mem_append_right _ (.head _) | exact List.mem_append_right _ (.tail _ (.head _)) | exact List.mem_append_right _ (.tail _ (.tail _ (.head _))) | exact .tail _ (List.mem_append_right _ (.head _)) | exact .tail _ (List.mem_append_right _ (.tail _ (.head _))) | assumption | (repeat (first | exact List.mem_cons_self | apply List.mem_append_right | apply List.mem_cons_of_mem))) rfl rfl rfl ?_
      first
        | (refine W_storeF (A := []) hp rfl sz23 rfl rfl rfl rfl ?_ ?_ ?_ rfl ?_; (focus first | exact Nat.le_of_ble_eq_true rfl | omega | (simp; omega)); (focus first | exact .inl (Nat.zero_le _) | omega); (focus first | (intro v hv; simp at hv; subst hv; rfl) | (simp [Value.oneCell']; done) | (simp [Value.oneCell', strV]; done) | (simp [Value.cells, Value.oneCell', strV]; done)))
        | (refine W_storeF (A := [_]) hp rfl sz23 rfl rfl rfl rfl ?_ ?_ ?_ rfl ?_; (focus first | exact Nat.le_of_ble_eq_true rfl | omega | (simp; omega)); (focus first | exact .inl (Nat.zero_le _) | omega); (focus first | (intro v hv; simp at hv; subst hv; rfl) | (simp [Value.oneCell']; done) | (simp [Value.oneCell', strV]; done) | (simp [Value.cells, Value.oneCell', strV]; done)))
        | (refine W_storeF (A := [_, _]) hp rfl sz23 rfl rfl rfl rfl ?_ ?_ ?_ rfl ?_; (focus first | exact Nat.le_of_ble_eq_true rfl | omega | (simp; omega)); (focus first | exact .inl (Nat.zero_le _) | omega); (focus first | (intro v hv; simp at hv; subst hv; rfl) | (simp [Value.oneCell']; done) | (simp [Value.oneCell', strV]; done) | (simp [Value.cells, Value.oneCell', strV]; done)))
        | (refine W_storeF (A := [_, _, _]) hp rfl sz23 rfl rfl rfl rfl ?_ ?_ ?_ rfl ?_; (focus first | exact Nat.le_of_ble_eq_true rfl | omega | (simp; omega)); (focus first | exact .inl (Nat.zero_le _) | omega); (focus first | (intro v hv; simp at hv; subst hv; rfl) | (simp [Value.oneCell']; done) | (simp [Value.oneCell', strV]; done) | (simp [Value.cells, Value.oneCell', strV]; done)))
        | (refine W_storeF (A := [_, _, _, _]) hp rfl sz23 rfl rfl rfl rfl ?_ ?_ ?_ rfl ?_; (focus first | exact Nat.le_of_ble_eq_true rfl | omega | (simp; omega)); (focus first | exact .inl (Nat.zero_le _) | omega); (focus first | (intro v hv; simp at hv; subst hv; rfl) | (simp [Value.oneCell']; done) | (simp [Value.oneCell', strV]; done) | (simp [Value.cells, Value.oneCell', strV]; done)))
        | (refine W_storeF (A := [_, _, _, _, _]) hp rfl sz23 rfl rfl rfl rfl ?_ ?_ ?_ rfl ?_; (focus first | exact Nat.le_of_ble_eq_true rfl | omega | (simp; omega)); (focus first | exact .inl (Nat.zero_le _) | omega); (focus first | (intro v hv; simp at hv; subst hv; rfl) | (simp [Value.oneCell']; done) | (simp [Value.oneCell', strV]; done) | (simp [Value.cells, Value.oneCell', strV]; done)))
        | (refine W_storeM (A := []) hp rfl sz23 rfl rfl rfl rfl ?_ ?_ ?_ rfl ?_; (focus first | exact Nat.le_of_ble_eq_true rfl | omega | (simp; omega)); (focus first | exact .inl (Nat.zero_le _) | omega); (focus first | (intro v hv; simp at hv; subst hv; rfl) | (simp [Value.oneCell']; done) | (simp [Value.oneCell', strV]; done) | (simp [Value.cells, Value.oneCell', strV]; done)))
        | (refine W_storeM (A := [_]) hp rfl sz23 rfl rfl rfl rfl ?_ ?_ ?_ rfl ?_; (focus first | exact Nat.le_of_ble_eq_true rfl | omega | (simp; omega)); (focus first | exact .inl (Nat.zero_le _) | omega); (focus first | (intro v hv; simp at hv; subst hv; rfl) | (simp [Value.oneCell']; done) | (simp [Value.oneCell', strV]; done) | (simp [Value.cells, Value.oneCell', strV]; done)))
        | (refine W_storeM (A := [_, _]) hp rfl sz23 rfl rfl rfl rfl ?_ ?_ ?_ rfl ?_; (focus first | exact Nat.le_of_ble_eq_true rfl | omega | (simp; omega)); (focus first | exact .inl (Nat.zero_le _) | omega); (focus first | (intro v hv; simp at hv; subst hv; rfl) | (simp [Value.oneCell']; done) | (simp [Value.oneCell', strV]; done) | (simp [Value.cells, Value.oneCell', strV]; done)))
        | (refine W_storeP hp sz23 rfl rfl rfl rfl (by repeat (first | exact Pick.here | apply Pick.cons | apply Pick.app)) ?_ ?_ ?_ rfl ?_; (focus first | exact Nat.le_of_ble_eq_true rfl | omega | (simp; omega)); (focus first | exact .inl (Nat.zero_le _) | omega); (focus first | (intro v hv; simp at hv; subst hv; rfl) | (simp [Value.oneCell']; done) | (simp [Value.oneCell', strV]; done) | (simp [Value.cells, Value.oneCell', strV]; done)))
      clear hp; intro w hp
      simp only [List.nil_append, List.cons_append, List.append_nil, List.take_succ_cons, List.take_zero, List.drop_succ_cons, List.drop_zero, List.take_nil, List.drop_nil, Nat.zero_add, Nat.add_zero, Nat.reduceAdd, Int.reduceToNat, Int.toNat_natCast, Nat.reduceMul, Nat.mul_one, Nat.zero_mul] at hp
      refine W_assign rfl rfl ?_
      refine W_nil ?_
      refine N_then_k ?_
      refine K_ret ?_
      refine N_then_ret ?_
      refine N_doneL (.inr rfl) rfl (RVs_cons (RV_agg rfl Tryd.underlying23 rfl sz23 hp (by first | exact List.mem_cons_self | exact .tail _ (.head _) | exact .tail _ (.tail _ (.head _)) | exact .tail _ (.tail _ (.tail _ (.head _))) | exact .tail _ (.tail _ (.tail _ (.tail _ (.head _)))) | exact .tail _ (.tail _ (.tail _ (.tail _ (.tail _ (.head _))))) | exact List.mem_append_right _ (.head _) | exact List.mem_append_right _ (.tail _ (.head _)) | exact List.mem_append_right _ (.tail _ (.tail _ (.head _))) | exact .tail _ (List.mem_append_right _ (.head _)) | exact .tail _ (List.mem_append_right _ (.tail _ (.head _))) | assumption | (repeat (first | exact List.mem_cons_self | apply List.mem_append_right | apply List.mem_cons_of_mem))) (by first | rfl | (rw [bytesV_len]; exact hDl))) (RVs_cons (RV_tmp rfl) (RVs_nil))) rfl ?_
      refine ⟨_, rfl, ?_, hp.nil⟩
      first
        | (have h0 := wrong_len ‹¬ (s.length : Int) = 64›; rw [parse_wrong h0, h0]; rfl)
        | (have h0 := wrong_lower ‹lower s ≠ s›; rw [parse_wrong h0, h0]; rfl)
        | (have h0 := wrong_at hc (by omega) ‹¬ 0 ≤ hexI c.toNat›; rw [parse_wrong h0, h0]; rfl)
        | (have h0 := wrong_at he (by omega) ‹¬ 0 ≤ hexI e.toNat›; rw [parse_wrong h0, h0]; rfl)
        | (have h0 := right_of (by omega) (by assumption) (fun j hj => hall j (by omega)); rw [parse_right h0, h0]; rfl))
   · try (exfalso; first | omega | (simp only [Bool.false_eq_true, reduceCtorEq] at hc2; done) | (refine absurd hc2 ?_; with_reducible assumption) | (refine absurd ?_ hc2; with_reducible assumption))
     all_goals (
      refine K_skip ?_
      refine N_then_k ?_
      refine K_seq ?_
      refine K_seq ?_
      refine K_region ?_
      refine W_move rfl rfl ?_
      refine W_nil ?_
      refine N_then_k ?_
      refine K_block ?_
      refine K_loop (σ := Nat) [3, 5, 6, 7, 8, 9, 20, 21, 22, 23, 24, 25, 26, 27, 28, 29, 30, 31, 32, 33, 34, 35, 36, 37, 38, 39, 40, 41, 42, 43, 44, 45, 46, 47, 48, 49, 50, 51, 52, 53, 54]
          (fun i => [(20, .int .i64 i)])
          (fun i w => Hp w0 [] [(b4, .cells (bytesV (outL (unhex s) i)).toArray 23), (b2, .cells (bytesV (List.replicate 32 0)).toArray 23)] w ∧ i ≤ 32 ∧ ∀ j, j < 2 * i → 0 ≤ hexI (s.getD j 0).toNat)
          (fun i => 32 - i) (0) ?_ ?_ ?_
      · repeat' (first | exact sub_lst_nil (sub_nil _) | refine sub_lst rfl ?_ | (refine sub_lst_eq rfl ?_ ?_; · first | rfl | (simp; done) | (congr 1; omega)))
      · exact ⟨hp, Nat.zero_le _, fun j hj => absurd hj (by omega)⟩
      · intro i w hJ
        clear hp
        obtain ⟨hp, hle, hall⟩ := hJ
        rcases Nat.lt_or_ge i 32 with hlt | hge
        all_goals (
         refine K_seq ?_
         refine K_region ?_
         first
           | (refine W_lss_t rfl rfl ?_ rfl ?_; (focus (omega)))
           | (refine W_lss_f rfl rfl ?_ rfl ?_; (focus (omega)))
           | (refine W_lss rfl rfl rfl ?_)
         refine W_nil ?_
         refine N_then_k ?_
         refine K_seq ?_
         first
           | refine K_cond_d rfl (fun hc3 => ?_) (fun hc3 => ?_)
           | refine K_cond_n rfl (fun hc3 => ?_) (fun hc3 => ?_)
           | refine K_cond_nb rfl (fun hc3 => ?_) (fun hc3 => ?_)
           | refine K_cond_t rfl (fun hc3 => ?_) (fun hc3 => ?_)
         · try (exfalso; first | omega | (simp only [Bool.false_eq_true, reduceCtorEq] at hc3; done) | (refine absurd hc3 ?_; with_reducible assumption) | (refine absurd ?_ hc3; with_reducible assumption))
           all_goals (
            refine K_skip ?_
            refine N_then_k ?_
            refine K_seq ?_
            refine K_block ?_
            refine K_seq ?_
            refine K_region ?_
            refine W_move rfl rfl ?_
            refine W_assign rfl rfl ?_
            refine W_nil ?_
            refine N_then_k ?_
            refine K_seq ?_
            refine K_region ?_
            obtain ⟨c, hc⟩ : ∃ c, s[2 * i]? = some c := ⟨_, List.getElem?_eq_getElem (by omega)⟩
            obtain ⟨e, he⟩ : ∃ e, s[2 * i + 1]? = some e := ⟨_, List.getElem?_eq_getElem (by omega)⟩
            have hc16 := hexI_range c.toNat
            have he16 := hexI_range e.toNat
            have hgc : s.getD (2 * i) 0 = c := by rw [List.getD_eq_getElem?_getD, hc]; rfl
            have hge : s.getD (2 * i + 1) 0 = e := by rw [List.getD_eq_getElem?_getD, he]; rfl
            have ha := hexV_lt s (2 * i)
            have hb := hexV_lt s (2 * i + 1)
            have hcv := hexV_tuple hgc
            have hev := hexV_tuple hge
            refine W_move rfl rfl ?_
            refine W_move rfl rfl ?_
            first
              | (refine W_mul rfl rfl (wr_i64 ?_) rfl ?_; (focus (omega)))
              | (refine W_mul rfl rfl rfl rfl ?_)
            refine W_index_s Tryd.underlying9 rfl rfl ?_ (by first | with_reducible assumption | assumption | exact rfl | exact idx_getD (by first | omega | (simp; omega))) rfl ?_
            (focus (omega))
            refine W_pcall hp rfl ((hex_spec c).eq hcv) rfl ?_
            clear hp; intro w hp
            refine W_move rfl rfl ?_
            refine W_extract rfl rfl rfl ?_
            refine W_extract rfl rfl rfl ?_
            refine W_assign rfl rfl ?_
            refine W_assign rfl rfl ?_
            refine W_nil ?_
            refine N_then_k ?_
            refine K_seq ?_
            refine K_region ?_
            refine W_move rfl rfl ?_
            refine W_move rfl rfl ?_
            first
              | (refine W_mul rfl rfl (wr_i64 ?_) rfl ?_; (focus (omega)))
              | (refine W_mul rfl rfl rfl rfl ?_)
            first
              | (refine W_add rfl rfl (wr_i64 ?_) rfl ?_; (focus (omega)))
              | (refine W_add rfl rfl rfl rfl ?_)
            refine W_index_s Tryd.underlying9 rfl rfl ?_ (by first | with_reducible assumption | assumption | exact rfl | exact idx_getD (by first | omega | (simp; omega))) rfl ?_
            (focus (omega))
            refine W_pcall hp rfl ((hex_spec e).eq hev) rfl ?_
            clear hp; intro w hp
            refine W_move rfl rfl ?_
            refine W_extract rfl rfl rfl ?_
            refine W_extract rfl rfl rfl ?_
            refine W_assign rfl rfl ?_
            refine W_assign rfl rfl ?_
            refine W_nil ?_
            refine N_then_k ?_
            refine K_seq ?_
            refine K_seq ?_
            refine K_region ?_
            refine W_move rfl rfl ?_
            first
              | (refine W_not_t rfl rfl ?_)
              | (refine W_not_f rfl rfl ?_)
              | (refine W_not rfl rfl ?_)
            refine W_move rfl rfl ?_
            first
              | refine W_guard_lit_t rfl ?_
              | refine W_guard_lit_f rfl ?_
              | refine W_guard_lit_u rfl ?_
              | refine W_guard_split_d rfl rfl rfl (fun hg4 => ?_) (fun hg4 => ?_)
              | refine W_guard_split_n rfl rfl rfl (fun hg4 => ?_) (fun hg4 => ?_)
              | refine W_guard_split_nb rfl rfl rfl (fun hg4 => ?_) (fun hg4 => ?_)
              | refine W_guard_split rfl rfl rfl (fun hg4 => ?_) (fun hg4 => ?_)
            all_goals try (exfalso; first | omega | (simp only [Bool.false_eq_true, reduceCtorEq] at hg4; done) | (refine absurd hg4 ?_; with_reducible assumption) | (refine absurd ?_ hg4; with_reducible assumption))
            all_goals (
             first
               | (iterate 2 refine W_guard_no rfl rfl rfl ?_)
               | (iterate 2 refine W_guard_un rfl rfl ?_)
               | (refine W_guard_yes rfl ?_
                  refine W_move rfl rfl ?_
                  refine W_guard_yes rfl ?_
                  first
                    | (refine W_not_t rfl rfl ?_)
                    | (refine W_not_f rfl rfl ?_)
                    | (refine W_not rfl rfl ?_))
             first
               | (refine W_pick_t rfl rfl rfl ?_)
               | (refine W_pick_f rfl rfl rfl ?_)
               | (refine W_pick_b rfl rfl rfl rfl ?_)
             refine W_nil ?_
             refine N_then_k ?_
             first
               | refine K_cond_d rfl (fun hc5 => ?_) (fun hc5 => ?_)
               | refine K_cond_n rfl (fun hc5 => ?_) (fun hc5 => ?_)
               | refine K_cond_nb rfl (fun hc5 => ?_) (fun hc5 => ?_)
               | refine K_cond_t rfl (fun hc5 => ?_) (fun hc5 => ?_)
             · try (exfalso; first | omega | (simp only [Bool.false_eq_true, reduceCtorEq] at hc5; done) | (refine absurd hc5 ?_; with_reducible assumption) | (refine absurd ?_ hc5; with_reducible assumption))
               all_goals (
                refine K_seq ?_
                refine K_region ?_
                refine W_build0  ([(.int .u8 0), (.int .u8 0), (.int .u8 0), (.int .u8 0), (.int .u8 0), (.int .u8 0), (.int .u8 0), (.int .u8 0), (.int .u8 0), (.int .u8 0), (.int .u8 0), (.int .u8 0), (.int .u8 0), (.int .u8 0), (.int .u8 0), (.int .u8 0), (.int .u8 0), (.int .u8 0), (.int .u8 0), (.int .u8 0), (.int .u8 0), (.int .u8 0), (.int .u8 0), (.int .u8 0), (.int .u8 0), (.int .u8 0), (.int .u8 0), (.int .u8 0), (.int .u8 0), (.int .u8 0), (.int .u8 0), (.int .u8 0)]) (by kernel_rfl) rfl ?_
                first
                  | (refine W_storeF (A := []) hp rfl sz23 rfl rfl rfl rfl ?_ ?_ ?_ rfl ?_; (focus first | exact Nat.le_of_ble_eq_true rfl | omega | (simp; omega)); (focus first | exact .inl (Nat.zero_le _) | omega); (focus first | (intro v hv; simp at hv; subst hv; rfl) | (simp [Value.oneCell']; done) | (simp [Value.oneCell', strV]; done) | (simp [Value.cells, Value.oneCell', strV]; done)))
                  | (refine W_storeF (A := [_]) hp rfl sz23 rfl rfl rfl rfl ?_ ?_ ?_ rfl ?_; (focus first | exact Nat.le_of_ble_eq_true rfl | omega | (simp; omega)); (focus first | exact .inl (Nat.zero_le _) | omega); (focus first | (intro v hv; simp at hv; subst hv; rfl) | (simp [Value.oneCell']; done) | (simp [Value.oneCell', strV]; done) | (simp [Value.cells, Value.oneCell', strV]; done)))
                  | (refine W_storeF (A := [_, _]) hp rfl sz23 rfl rfl rfl rfl ?_ ?_ ?_ rfl ?_; (focus first | exact Nat.le_of_ble_eq_true rfl | omega | (simp; omega)); (focus first | exact .inl (Nat.zero_le _) | omega); (focus first | (intro v hv; simp at hv; subst hv; rfl) | (simp [Value.oneCell']; done) | (simp [Value.oneCell', strV]; done) | (simp [Value.cells, Value.oneCell', strV]; done)))
                  | (refine W_storeF (A := [_, _, _]) hp rfl sz23 rfl rfl rfl rfl ?_ ?_ ?_ rfl ?_; (focus first | exact Nat.le_of_ble_eq_true rfl | omega | (simp; omega)); (focus first | exact .inl (Nat.zero_le _) | omega); (focus first | (intro v hv; simp at hv; subst hv; rfl) | (simp [Value.oneCell']; done) | (simp [Value.oneCell', strV]; done) | (simp [Value.cells, Value.oneCell', strV]; done)))
                  | (refine W_storeF (A := [_, _, _, _]) hp rfl sz23 rfl rfl rfl rfl ?_ ?_ ?_ rfl ?_; (focus first | exact Nat.le_of_ble_eq_true rfl | omega | (simp; omega)); (focus first | exact .inl (Nat.zero_le _) | omega); (focus first | (intro v hv; simp at hv; subst hv; rfl) | (simp [Value.oneCell']; done) | (simp [Value.oneCell', strV]; done) | (simp [Value.cells, Value.oneCell', strV]; done)))
                  | (refine W_storeF (A := [_, _, _, _, _]) hp rfl sz23 rfl rfl rfl rfl ?_ ?_ ?_ rfl ?_; (focus first | exact Nat.le_of_ble_eq_true rfl | omega | (simp; omega)); (focus first | exact .inl (Nat.zero_le _) | omega); (focus first | (intro v hv; simp at hv; subst hv; rfl) | (simp [Value.oneCell']; done) | (simp [Value.oneCell', strV]; done) | (simp [Value.cells, Value.oneCell', strV]; done)))
                  | (refine W_storeM (A := []) hp rfl sz23 rfl rfl rfl rfl ?_ ?_ ?_ rfl ?_; (focus first | exact Nat.le_of_ble_eq_true rfl | omega | (simp; omega)); (focus first | exact .inl (Nat.zero_le _) | omega); (focus first | (intro v hv; simp at hv; subst hv; rfl) | (simp [Value.oneCell']; done) | (simp [Value.oneCell', strV]; done) | (simp [Value.cells, Value.oneCell', strV]; done)))
                  | (refine W_storeM (A := [_]) hp rfl sz23 rfl rfl rfl rfl ?_ ?_ ?_ rfl ?_; (focus first | exact Nat.le_of_ble_eq_true rfl | omega | (simp; omega)); (focus first | exact .inl (Nat.zero_le _) | omega); (focus first | (intro v hv; simp at hv; subst hv; rfl) | (simp [Value.oneCell']; done) | (simp [Value.oneCell', strV]; done) | (simp [Value.cells, Value.oneCell', strV]; done)))
                  | (refine W_storeM (A := [_, _]) hp rfl sz23 rfl rfl rfl rfl ?_ ?_ ?_ rfl ?_; (focus first | exact Nat.le_of_ble_eq_true rfl | omega | (simp; omega)); (focus first | exact .inl (Nat.zero_le _) | omega); (focus first | (intro v hv; simp at hv; subst hv; rfl) | (simp [Value.oneCell']; done) | (simp [Value.oneCell', strV]; done) | (simp [Value.cells, Value.oneCell', strV]; done)))
                  | (refine W_storeP hp sz23 rfl rfl rfl rfl (by repeat (first | exact Pick.here | apply Pick.cons | apply Pick.app)) ?_ ?_ ?_ rfl ?_; (focus first | exact Nat.le_of_ble_eq_true rfl | omega | (simp; omega)); (focus first | exact .inl (Nat.zero_le _) | omega); (focus first | (intro v hv; simp at hv; subst hv; rfl) | (simp [Value.oneCell']; done) | (simp [Value.oneCell', strV]; done) | (simp [Value.cells, Value.oneCell', strV]; done)))
                clear hp; intro w hp
                simp only [List.nil_append, List.cons_append, List.append_nil, List.take_succ_cons, List.take_zero, List.drop_succ_cons, List.drop_zero, List.take_nil, List.drop_nil, Nat.zero_add, Nat.add_zero, Nat.reduceAdd, Int.reduceToNat, Int.toNat_natCast, Nat.reduceMul, Nat.mul_one, Nat.zero_mul] at hp
                refine W_assign rfl rfl ?_
                refine W_nil ?_
                refine N_then_k ?_
                refine K_ret ?_
                refine N_then_ret ?_
                refine N_block_ret ?_
                refine N_then_ret ?_
                refine N_then_ret ?_
                refine N_block_ret ?_
                refine N_then_ret ?_
                refine N_doneL (.inr rfl) rfl (RVs_cons (RV_agg rfl Tryd.underlying23 rfl sz23 hp (by first | exact List.mem_cons_self | exact .tail _ (.head _) | exact .tail _ (.tail _ (.head _)) | exact .tail _ (.tail _ (.tail _ (.head _))) | exact .tail _ (.tail _ (.tail _ (.tail _ (.head _)))) | exact .tail _ (.tail _ (.tail _ (.tail _ (.tail _ (.head _))))) | exact List.mem_append_right _ (.head _) | exact List.mem_append_right _ (.tail _ (.head _)) | exact List.mem_append_right _ (.tail _ (.tail _ (.head _))) | exact .tail _ (List.mem_append_right _ (.head _)) | exact .tail _ (List.mem_append_right _ (.tail _ (.head _))) | assumption | (repeat (first | exact List.mem_cons_self | apply List.mem_append_right | apply List.mem_cons_of_mem))) (by first | rfl | (rw [bytesV_len]; exact hDl))) (RVs_cons (RV_tmp rfl) (RVs_nil))) rfl ?_
                refine ⟨_, rfl, ?_, hp.nil⟩
                first
                  | (have h0 := wrong_len ‹¬ (s.length : Int) = 64›; rw [parse_wrong h0, h0]; rfl)
                  | (have h0 := wrong_lower ‹lower s ≠ s›; rw [parse_wrong h0, h0]; rfl)
                  | (have h0 := wrong_at hc (by omega) ‹¬ 0 ≤ hexI c.toNat›; rw [parse_wrong h0, h0]; rfl)
                  | (have h0 := wrong_at he (by omega) ‹¬ 0 ≤ hexI e.toNat›; rw [parse_wrong h0, h0]; rfl)
                  | (have h0 := right_of (by omega) (by assumption) (fun j hj => hall j (by omega)); rw [parse_right h0, h0]; rfl))
             · try (exfalso; first | omega | (simp only [Bool.false_eq_true, reduceCtorEq] at hc5; done) | (refine absurd hc5 ?_; with_reducible assumption) | (refine absurd ?_ hc5; with_reducible assumption))
               all_goals (
                refine K_skip ?_
                refine N_then_k ?_
                refine K_region ?_
                refine W_move rfl rfl ?_
                refine W_move rfl rfl ?_
                first
                  | (refine W_mul rfl rfl (wr_i64 ?_) rfl ?_; (focus (omega)))
                  | (refine W_mul rfl rfl rfl rfl ?_)
                refine W_move rfl rfl ?_
                refine W_add (r := ((16 * hexV s (2 * i) + hexV s (2 * i + 1) : Nat) : Int)) rfl rfl (by rw [show (16 * (hexV s (2 * i) : Int) + (hexV s (2 * i + 1) : Int)) = ((16 * hexV s (2 * i) + hexV s (2 * i + 1) : Nat) : Int) by omega]; exact wr_i64 (by omega)) rfl ?_
                refine W_conv_i Tryd.underlying3 Tryd.underlying5 rfl (byteOf _) rfl ?_
                refine W_indexAddr_ar Tryd.underlying23 sz5 rfl rfl ?_ ?_ rfl ?_
                (focus (omega))
                (focus (first | omega | (simp; done) | (simp; omega)))
                refine W_storeF (A := []) (cs := bytesV ((outL (unhex s) i).set (i) (unhexC s i))) hp rfl sz5 rfl rfl rfl rfl ?_ ?_ ?_ (setb (show 0 + (i : Int).toNat * 1 = i by omega) (by rw [outL_length hDl (by omega)]; omega)) ?_
                · rw [bytesV_len]; rw [outL_length hDl (by omega)]; omega
                · omega
                · simp [Value.oneCell']
                clear hp; intro w hp
                refine W_nil ?_
                refine N_block_normal ?_
                refine N_then_k ?_
                refine K_region ?_
                first
                  | (refine W_add rfl rfl (wr_i64 ?_) rfl ?_; (focus (omega)))
                  | (refine W_add rfl rfl rfl rfl ?_)
                refine W_move rfl rfl ?_
                refine W_nil ?_
                refine N_again (i + 1) (sub_end ?_ ?_) ?_ ?_
                · repeat' (first | exact sub_lst_nil (sub_nil _) | refine sub_lst rfl ?_ | (refine sub_lst_eq rfl ?_ ?_; · first | rfl | (simp; done) | (congr 1; omega)))
                · repeat' (first | exact sub_refl _ | exact sub_strip _ _ | refine sub_s_cons rfl ?_ | refine sub_s_lst rfl ?_ | refine sub_s_strip rfl ?_)
                · rw [outL_set hDl hlt (unhex_at s hlt)] at hp
                  exact ⟨hp, hlt, fun j hj => by rcases (by omega : j < 2 * i ∨ j = 2 * i ∨ j = 2 * i + 1) with h | h | h; exact hall j h; rw [h, hgc]; assumption; rw [h, hge]; assumption⟩
                · omega)))
         · try (exfalso; first | omega | (simp only [Bool.false_eq_true, reduceCtorEq] at hc3; done) | (refine absurd hc3 ?_; with_reducible assumption) | (refine absurd ?_ hc3; with_reducible assumption))
           all_goals (
            refine K_exit ?_
            refine N_then_exit ?_
            refine N_then_exit ?_
            refine N_block_exit ?_
            refine N_then_k ?_
            refine K_seq ?_
            refine K_region ?_
            obtain rfl : i = 32 := by omega
            rw [outL_all hDl] at hp
            refine W_load_own (cs := bytesV (unhex s)) Tryd.underlying23 rfl sz23 rfl hp List.mem_cons_self (by rw [List.drop_zero, List.take_of_length_le (by rw [bytesV_len]; omega)]) (by rw [bytesV_len]; exact hDl) rfl ?_
            refine W_storeF (A := [(b4, .cells (bytesV (unhex s)).toArray 23)]) (cs := bytesV (unhex s)) hp rfl sz23 rfl rfl rfl (by rw [bytesV_len]; exact hDl) ?_ ?_ ?_ (by simp [bytesV]) ?_
            · simp [bytesV]
            · exact .inl (Nat.zero_le _)
            · exact bytesV_one
            clear hp; intro w hp
            refine W_assign rfl rfl ?_
            refine W_nil ?_
            refine N_then_k ?_
            refine K_ret ?_
            refine N_doneL (.inr rfl) rfl (RVs_cons (RV_agg rfl Tryd.underlying23 rfl sz23 hp (by first | exact List.mem_cons_self | exact .tail _ (.head _) | exact .tail _ (.tail _ (.head _)) | exact .tail _ (.tail _ (.tail _ (.head _))) | exact .tail _ (.tail _ (.tail _ (.tail _ (.head _)))) | exact .tail _ (.tail _ (.tail _ (.tail _ (.tail _ (.head _))))) | exact List.mem_append_right _ (.head _) | exact List.mem_append_right _ (.tail _ (.head _)) | exact List.mem_append_right _ (.tail _ (.tail _ (.head _))) | exact .tail _ (List.mem_append_right _ (.head _)) | exact .tail _ (List.mem_append_right _ (.tail _ (.head _))) | assumption | (repeat (first | exact List.mem_cons_self | apply List.mem_append_right | apply List.mem_cons_of_mem))) (by first | rfl | (rw [bytesV_len]; exact hDl))) (RVs_cons (RV_tmp rfl) (RVs_nil))) rfl ?_
            refine ⟨_, rfl, ?_, hp.nil⟩
            first
              | (have h0 := wrong_len ‹¬ (s.length : Int) = 64›; rw [parse_wrong h0, h0]; rfl)
              | (have h0 := wrong_lower ‹lower s ≠ s›; rw [parse_wrong h0, h0]; rfl)
              | (have h0 := wrong_at hc (by omega) ‹¬ 0 ≤ hexI c.toNat›; rw [parse_wrong h0, h0]; rfl)
              | (have h0 := wrong_at he (by omega) ‹¬ 0 ≤ hexI e.toNat›; rw [parse_wrong h0, h0]; rfl)
              | (have h0 := right_of (by omega) (by assumption) (fun j hj => hall j (by omega)); rw [parse_right h0, h0]; rfl)))))

end Go.Proofs.YtpkcoeocdimjoaaDoor
