/-
  The reference implementation of package reply, walked.
-/
import Derived.Test.YtnokecddkbkhaaaSam
namespace Go.Proofs.Ytnokecddkbkhaaa
open Go.Sx Go.RowKit
set_option linter.unusedVariables false
set_option linter.unusedSimpArgs false
set_option maxRecDepth 100000

theorem rjoin_spec (w0 : World) (M : List (List UInt8)) (Al : Option Addr) (cl : Nat) (hrl : Rd w0 (.slice Al M.length cl) M.length (M.map strV)) (hm : M.length ≤ 100000) (hj : (joinB [44, 32] M).length ≤ 100000000) : PureAt Try.prog 40 [.slice Al M.length cl] (.string ⟨(joinB [44, 32] M).toArray⟩) w0 := by
  refine PureAt.intro go40 Try.func40 rfl rfl fun hp => ?_
  refine (fun (hk : ∀ w, Hp w0 [] [] w → K _ _ _ _ _ w) => hk w0 hp) fun w hp => ?_
  refine K_seq ?_
  refine K_region ?_
  refine W_assign rfl rfl ?_
  refine W_nil ?_
  refine N_then_k ?_
  refine K_seq ?_
  refine K_region ?_
  refine W_assign rfl rfl ?_
  refine W_nil ?_
  refine N_then_k ?_
  refine K_seq ?_
  refine K_seq ?_
  refine K_region ?_
  refine W_assign rfl rfl ?_
  refine W_nil ?_
  refine N_then_k ?_
  refine K_block ?_
  refine K_loop (σ := Nat) [3, 4, 5, 6, 7, 8, 9, 10, 11, 12, 13, 14, 15, 16, 17, 18, 19, 20]
      (fun k => [(3, .string ⟨(joinB [44, 32] (M.take k)).toArray⟩), (4, .int .i64 k)])
      (fun k w => Hp w0 [] [] w ∧ k ≤ M.length)
      (fun k => M.length - k) (0) ?_ ?_ ?_
  · repeat' (first | exact sub_lst_nil (sub_nil _) | refine sub_lst rfl ?_ | (refine sub_lst_eq rfl ?_ ?_; · first | rfl | (simp; done) | (congr 1; omega)))
  · exact ⟨hp, Nat.zero_le _⟩
  · intro k w hJ
    clear hp
    obtain ⟨hp, hle⟩ := hJ
    rcases Nat.lt_or_ge k M.length with hlt | hge
    all_goals (
     refine K_seq ?_
     refine K_seq ?_
     refine K_region ?_
     refine W_move rfl rfl ?_
     refine W_move rfl rfl ?_
     refine W_len_sl Try.underlying22 rfl rfl ?_
     first
       | (refine W_lss_t rfl rfl ?_ rfl ?_; (focus (omega)))
       | (refine W_lss_f rfl rfl ?_ rfl ?_; (focus (omega)))
       | (refine W_lss rfl rfl rfl ?_)
     refine W_nil ?_
     refine N_then_k ?_
     first
       | refine K_cond_d rfl (fun hc1 => ?_) (fun hc1 => ?_)
       | refine K_cond_n rfl (fun hc1 => ?_) (fun hc1 => ?_)
       | refine K_cond_nb rfl (fun hc1 => ?_) (fun hc1 => ?_)
       | refine K_cond_t rfl (fun hc1 => ?_) (fun hc1 => ?_)
     · try (exfalso; first | omega | (simp only [Bool.false_eq_true, reduceCtorEq] at hc1; done) | (refine absurd hc1 ?_; with_reducible assumption) | (refine absurd ?_ hc1; with_reducible assumption))
       all_goals (
        refine K_skip ?_
        refine N_then_k ?_
        refine K_seq ?_
        refine K_block ?_
        refine K_seq ?_
        refine K_seq ?_
        obtain ⟨x, hx⟩ : ∃ x, M[k]? = some x := ⟨_, List.getElem?_eq_getElem hlt⟩
        have hxs := strV_at hx
        obtain ⟨bb, oo, rfl⟩ := hrl.some (by intro e; rw [e] at hxs; simp at hxs)
        have hcx := hrl.cell hxs
        have hl2 := joinB_le [44, 32] M (k + 1)
        have hl1 := joinB_le [44, 32] M k
        rcases Nat.eq_zero_or_pos k with hk0 | hk0
        all_goals first | (have hjm : joinB [44, 32] (M.take (k + 1)) = joinB [44, 32] (M.take k) ++ x := by rw [hk0] at hx ⊢; rw [joinB_one hx]; rfl) | (have hjm : joinB [44, 32] (M.take (k + 1)) = joinB [44, 32] (M.take k) ++ [44, 32] ++ x := by obtain ⟨j, hj2⟩ : ∃ j, k = j + 1 := ⟨k - 1, by omega⟩; rw [hj2] at hx ⊢; exact joinB_more hx)
        all_goals have hl3 := congrArg List.length hjm
        all_goals simp only [List.length_append] at hl3
        all_goals (
         refine K_region ?_
         refine W_move rfl rfl ?_
         first
           | (refine W_gtr_t rfl rfl ?_ rfl ?_; (focus (omega)))
           | (refine W_gtr_f rfl rfl ?_ rfl ?_; (focus (omega)))
           | (refine W_gtr rfl rfl rfl ?_)
         refine W_nil ?_
         refine N_then_k ?_
         first
           | refine K_cond_d rfl (fun hc2 => ?_) (fun hc2 => ?_)
           | refine K_cond_n rfl (fun hc2 => ?_) (fun hc2 => ?_)
           | refine K_cond_nb rfl (fun hc2 => ?_) (fun hc2 => ?_)
           | refine K_cond_t rfl (fun hc2 => ?_) (fun hc2 => ?_)
         · try (exfalso; first | omega | (simp only [Bool.false_eq_true, reduceCtorEq] at hc2; done) | (refine absurd hc2 ?_; with_reducible assumption) | (refine absurd ?_ hc2; with_reducible assumption))
           all_goals (
            refine K_region ?_
            refine W_move rfl rfl ?_
            refine W_sadd rfl rfl ?_ rfl ?_
            (focus (first | omega | (simp only [List.length_append, List.length_cons, List.length_nil, List.length_drop, List.length_take] at *; omega) | (simp; omega)))
            refine W_assign rfl rfl ?_
            refine W_nil ?_
            refine N_then_k ?_
            refine K_region ?_
            refine W_move rfl rfl ?_
            refine W_move rfl rfl ?_
            refine W_move rfl rfl ?_
            refine W_indexAddr_sl Try.underlying22 sz9 rfl rfl ?_ ?_ rfl ?_
            (focus (omega))
            (focus (first | omega | (simp; done) | (simp; omega)))
            refine W_load_s Try.underlying9 rfl rfl (by exact hp.cell_old0 (by simpa using hcx)) rfl ?_
            refine W_sadd rfl rfl ?_ rfl ?_
            (focus (first | omega | (simp only [List.length_append, List.length_cons, List.length_nil, List.length_drop, List.length_take] at *; omega) | (simp; omega)))
            refine W_assign rfl rfl ?_
            refine W_nil ?_
            refine N_block_normal ?_
            refine N_then_k ?_
            refine K_region ?_
            refine W_move rfl rfl ?_
            first
              | (refine W_add rfl rfl (wr_i64 ?_) rfl ?_; (focus (omega)))
              | (refine W_add rfl rfl rfl rfl ?_)
            refine W_assign rfl rfl ?_
            refine W_nil ?_
            refine N_again (k + 1) (sub_end ?_ ?_) ?_ ?_
            · repeat' (first | exact sub_lst_nil (sub_nil _) | refine sub_lst rfl ?_ | (refine sub_lst_eq rfl ?_ ?_; · first | rfl | ((refine congrArg strV ?_; rw [hjm])) | (simp; done) | (congr 1; omega)))
            · repeat' (first | exact sub_refl _ | exact sub_strip _ _ | refine sub_s_cons rfl ?_ | refine sub_s_lst rfl ?_ | refine sub_s_strip rfl ?_)
            · exact ⟨hp, hlt⟩
            · omega)
         · try (exfalso; first | omega | (simp only [Bool.false_eq_true, reduceCtorEq] at hc2; done) | (refine absurd hc2 ?_; with_reducible assumption) | (refine absurd ?_ hc2; with_reducible assumption))
           all_goals (
            refine K_skip ?_
            refine N_then_k ?_
            refine K_region ?_
            refine W_move rfl rfl ?_
            refine W_move rfl rfl ?_
            refine W_move rfl rfl ?_
            refine W_indexAddr_sl Try.underlying22 sz9 rfl rfl ?_ ?_ rfl ?_
            (focus (omega))
            (focus (first | omega | (simp; done) | (simp; omega)))
            refine W_load_s Try.underlying9 rfl rfl (by exact hp.cell_old0 (by simpa using hcx)) rfl ?_
            refine W_sadd rfl rfl ?_ rfl ?_
            (focus (first | omega | (simp only [List.length_append, List.length_cons, List.length_nil, List.length_drop, List.length_take] at *; omega) | (simp; omega)))
            refine W_assign rfl rfl ?_
            refine W_nil ?_
            refine N_block_normal ?_
            refine N_then_k ?_
            refine K_region ?_
            refine W_move rfl rfl ?_
            first
              | (refine W_add rfl rfl (wr_i64 ?_) rfl ?_; (focus (omega)))
              | (refine W_add rfl rfl rfl rfl ?_)
            refine W_assign rfl rfl ?_
            refine W_nil ?_
            refine N_again (k + 1) (sub_end ?_ ?_) ?_ ?_
            · repeat' (first | exact sub_lst_nil (sub_nil _) | refine sub_lst rfl ?_ | (refine sub_lst_eq rfl ?_ ?_; · first | rfl | ((refine congrArg strV ?_; rw [hjm])) | (simp; done) | (congr 1; omega)))
            · repeat' (first | exact sub_refl _ | exact sub_strip _ _ | refine sub_s_cons rfl ?_ | refine sub_s_lst rfl ?_ | refine sub_s_strip rfl ?_)
            · exact ⟨hp, hlt⟩
            · omega)))
     · try (exfalso; first | omega | (simp only [Bool.false_eq_true, reduceCtorEq] at hc1; done) | (refine absurd hc1 ?_; with_reducible assumption) | (refine absurd ?_ hc1; with_reducible assumption))
       all_goals (
        refine K_exit ?_
        refine N_then_exit ?_
        refine N_then_exit ?_
        refine N_block_exit ?_
        refine N_then_k ?_
        refine K_seq ?_
        refine K_region ?_
        refine W_move rfl rfl ?_
        refine W_assign rfl rfl ?_
        refine W_nil ?_
        refine N_then_k ?_
        refine K_ret ?_
        refine N_done1 (.inr rfl) rfl rfl ?_
        refine ⟨_, rfl, ?_, hp.nil⟩
        rw [List.take_of_length_le hge]))

theorem rfield_spec (a b : List UInt8) : PureF Try.prog 33 [.string ⟨a.toArray⟩, .string ⟨b.toArray⟩] (.agg #[.string ⟨a.toArray⟩, .string ⟨b.toArray⟩]) := by
  refine PureF.intro go33 Try.func33 rfl rfl fun w0 hp => ?_
  refine K_seq ?_
  refine K_region ?_
  refine W_alloc hp zv45 rfl rfl ?_
  clear hp; intro b4 w hp
  refine W_nil ?_
  refine N_then_k ?_
  refine K_seq ?_
  refine K_region ?_
  refine W_move rfl rfl ?_
  refine W_move rfl rfl ?_
  refine W_build2 rfl rfl  (fun v0 v1 => [v0, v1]) (by kernel_rfl) rfl ?_
  first
    | (refine W_storeF (A := []) hp rfl sz45 rfl rfl rfl rfl ?_ ?_ ?_ rfl ?_; (focus first | exact Nat.le_of_ble_eq_true rfl | omega | (simp; omega)); (focus first | exact .inl (Nat.zero_le _) | omega); (focus first | (intro v hv; simp at hv; subst hv; rfl) | (simp [Value.oneCell']; done) | (simp [Value.oneCell', strV]; done) | (simp [Value.cells, Value.oneCell', strV]; done)))
    | (refine W_storeF (A := [_]) hp rfl sz45 rfl rfl rfl rfl ?_ ?_ ?_ rfl ?_; (focus first | exact Nat.le_of_ble_eq_true rfl | omega | (simp; omega)); (focus first | exact .inl (Nat.zero_le _) | omega); (focus first | (intro v hv; simp at hv; subst hv; rfl) | (simp [Value.oneCell']; done) | (simp [Value.oneCell', strV]; done) | (simp [Value.cells, Value.oneCell', strV]; done)))
    | (refine W_storeF (A := [_, _]) hp rfl sz45 rfl rfl rfl rfl ?_ ?_ ?_ rfl ?_; (focus first | exact Nat.le_of_ble_eq_true rfl | omega | (simp; omega)); (focus first | exact .inl (Nat.zero_le _) | omega); (focus first | (intro v hv; simp at hv; subst hv; rfl) | (simp [Value.oneCell']; done) | (simp [Value.oneCell', strV]; done) | (simp [Value.cells, Value.oneCell', strV]; done)))
    | (refine W_storeF (A := [_, _, _]) hp rfl sz45 rfl rfl rfl rfl ?_ ?_ ?_ rfl ?_; (focus first | exact Nat.le_of_ble_eq_true rfl | omega | (simp; omega)); (focus first | exact .inl (Nat.zero_le _) | omega); (focus first | (intro v hv; simp at hv; subst hv; rfl) | (simp [Value.oneCell']; done) | (simp [Value.oneCell', strV]; done) | (simp [Value.cells, Value.oneCell', strV]; done)))
    | (refine W_storeF (A := [_, _, _, _]) hp rfl sz45 rfl rfl rfl rfl ?_ ?_ ?_ rfl ?_; (focus first | exact Nat.le_of_ble_eq_true rfl | omega | (simp; omega)); (focus first | exact .inl (Nat.zero_le _) | omega); (focus first | (intro v hv; simp at hv; subst hv; rfl) | (simp [Value.oneCell']; done) | (simp [Value.oneCell', strV]; done) | (simp [Value.cells, Value.oneCell', strV]; done)))
    | (refine W_storeF (A := [_, _, _, _, _]) hp rfl sz45 rfl rfl rfl rfl ?_ ?_ ?_ rfl ?_; (focus first | exact Nat.le_of_ble_eq_true rfl | omega | (simp; omega)); (focus first | exact .inl (Nat.zero_le _) | omega); (focus first | (intro v hv; simp at hv; subst hv; rfl) | (simp [Value.oneCell']; done) | (simp [Value.oneCell', strV]; done) | (simp [Value.cells, Value.oneCell', strV]; done)))
    | (refine W_storeM (A := []) hp rfl sz45 rfl rfl rfl rfl ?_ ?_ ?_ rfl ?_; (focus first | exact Nat.le_of_ble_eq_true rfl | omega | (simp; omega)); (focus first | exact .inl (Nat.zero_le _) | omega); (focus first | (intro v hv; simp at hv; subst hv; rfl) | (simp [Value.oneCell']; done) | (simp [Value.oneCell', strV]; done) | (simp [Value.cells, Value.oneCell', strV]; done)))
    | (refine W_storeM (A := [_]) hp rfl sz45 rfl rfl rfl rfl ?_ ?_ ?_ rfl ?_; (focus first | exact Nat.le_of_ble_eq_true rfl | omega | (simp; omega)); (focus first | exact .inl (Nat.zero_le _) | omega); (focus first | (intro v hv; simp at hv; subst hv; rfl) | (simp [Value.oneCell']; done) | (simp [Value.oneCell', strV]; done) | (simp [Value.cells, Value.oneCell', strV]; done)))
    | (refine W_storeM (A := [_, _]) hp rfl sz45 rfl rfl rfl rfl ?_ ?_ ?_ rfl ?_; (focus first | exact Nat.le_of_ble_eq_true rfl | omega | (simp; omega)); (focus first | exact .inl (Nat.zero_le _) | omega); (focus first | (intro v hv; simp at hv; subst hv; rfl) | (simp [Value.oneCell']; done) | (simp [Value.oneCell', strV]; done) | (simp [Value.cells, Value.oneCell', strV]; done)))
    | (refine W_storeP hp sz45 rfl rfl rfl rfl (by repeat (first | exact Pick.here | apply Pick.cons | apply Pick.app)) ?_ ?_ ?_ rfl ?_; (focus first | exact Nat.le_of_ble_eq_true rfl | omega | (simp; omega)); (focus first | exact .inl (Nat.zero_le _) | omega); (focus first | (intro v hv; simp at hv; subst hv; rfl) | (simp [Value.oneCell']; done) | (simp [Value.oneCell', strV]; done) | (simp [Value.cells, Value.oneCell', strV]; done)))
  clear hp; intro w hp
  simp only [List.nil_append, List.cons_append, List.append_nil, List.take_succ_cons, List.take_zero, List.drop_succ_cons, List.drop_zero, List.take_nil, List.drop_nil, Nat.zero_add, Nat.add_zero, Nat.reduceAdd, Int.reduceToNat, Int.toNat_natCast, Nat.reduceMul, Nat.mul_one, Nat.zero_mul] at hp
  refine W_nil ?_
  refine N_then_k ?_
  refine K_ret ?_
  refine N_doneL (.inr rfl) rfl (RVs_cons (RV_agg rfl Try.underlying45 rfl sz45 hp (by first | exact List.mem_cons_self | exact .tail _ (.head _) | exact .tail _ (.tail _ (.head _)) | exact .tail _ (.tail _ (.tail _ (.head _))) | exact .tail _ (.tail _ (.tail _ (.tail _ (.head _)))) | exact .tail _ (.tail _ (.tail _ (.tail _ (.tail _ (.head _))))) | exact List.mem_append_right _ (.head _) | exact List.mem_append_right _ (.tail _ (.head _)) | exact List.mem_append_right _ (.tail _ (.tail _ (.head _))) | exact .tail _ (List.mem_append_right _ (.head _)) | exact .tail _ (List.mem_append_right _ (.tail _ (.head _))) | assumption | (repeat (first | exact List.mem_cons_self | apply List.mem_append_right | apply List.mem_cons_of_mem))) (by first | rfl | (simp; done))) (RVs_nil)) rfl ?_
  exact ⟨_, rfl, rfl, hp.nil⟩

/-- A response whose fields the call made, and whose body it did not. -/
def RespR (st : Int) (L : List RPair) (bv : Value) (v : Value) (G : Heap) : Prop := ∃ fv, v = .agg #[.int .i64 st, fv, bv] ∧ OSp 45 fv L G
theorem RespR.form {st : Int} {L : List RPair} {bv v : Value} {G : Heap} (h : RespR st L bv v G) : ∃ Af cf, v = .agg #[.int .i64 st, .slice Af L.length cf, bv] ∧ OSp 45 (.slice Af L.length cf) L G := by
  obtain ⟨fv, rfl, hf⟩ := h
  obtain ⟨Af, cf, rfl⟩ := hf.form
  exact ⟨Af, cf, rfl, hf⟩

set_option maxHeartbeats 800000 in
theorem rShort_spec (w0 : World) (s : Int) (L : List RPair) (Al : Option Addr) (cl : Nat) (hrl : Rd w0 (.slice Al L.length cl) L.length (pairC L)) (hL : L.length ≤ 10000) : RetB Try.prog 12 [.int .i64 s, .slice Al L.length cl] (fun v G => RespO s (shortL s L) (reasonF s ++ [10]) v G) w0 := by
  unfold shortL
  have hrl40 := reason_length s
  have hrs := rreason_spec s
  generalize reasonF s = R at *
  have hrb : (R ++ [10]).length ≤ 41 := by simp; omega
  refine RetB.intro go12 Try.func12 rfl rfl fun hp => ?_
  refine (fun (hk : ∀ w, Hp w0 [] [] w → K _ _ _ _ _ w) => hk w0 hp) fun w hp => ?_
  refine K_seq ?_
  refine K_region ?_
  refine W_alloc hp zv32 rfl rfl ?_
  clear hp; intro b4 w hp
  refine W_nil ?_
  refine N_then_k ?_
  refine K_seq ?_
  refine K_region ?_
  refine W_move rfl rfl ?_
  refine W_pcall hp rfl (hrs) rfl ?_
  clear hp; intro w hp
  refine W_sadd rfl rfl ?_ rfl ?_
  (focus (first | omega | (simp only [List.length_append, List.length_cons, List.length_nil, List.length_drop, List.length_take] at *; omega) | (simp; omega)))
  refine W_assign rfl rfl ?_
  refine W_nil ?_
  refine N_then_k ?_
  refine K_seq ?_
  generalize R ++ [10] = Bd at *
  refine K_region ?_
  refine W_bslice0 hp Try.underlying30 sz45 zv45   ([]) rfl rfl rfl ?_
  clear hp; intro b10 w hp
  try simp only [Value.cells, List.toList_toArray, List.cons_append, List.nil_append, List.append_nil] at hp
  refine W_move rfl rfl ?_
  have hos := OS.lit (e := 45) (sz := 2) (b := b10) (k := 0) (cs := []) rfl (by decide)
  refine W_append_sl (A := []) (B := _) (pairC L) rfl hp rfl Try.underlying30 sz45 pb45 zv45 rfl rfl rfl rfl hos (hrl.keep hp) ?_ ?_ ?_ ?_ rfl ?_
  · simp [pairC_length, Nat.mul_comm]
  · exact pairC_one L
  · (simp only [maxLen]; omega)
  · omega
  clear hp; intro va12 Hs w hos hp
  replace hos := OSp.app (a := []) (b := L) rfl rfl hos
  obtain ⟨Aa12, ca12, rfl⟩ := hos.form
  refine W_pcall hp rfl (rfield_spec [67, 111, 110, 116, 101, 110, 116, 45, 84, 121, 112, 101] [116, 101, 120, 116, 47, 112, 108, 97, 105, 110]) rfl ?_
  clear hp; intro w hp
  refine W_move rfl rfl ?_
  refine W_len_s Try.underlying9 rfl rfl ?_
  refine W_pcall hp rfl (rtext_spec Bd.length (by omega)) rfl ?_
  clear hp; intro w hp
  refine W_pcall hp rfl (rfield_spec [67, 111, 110, 116, 101, 110, 116, 45, 76, 101, 110, 103, 116, 104] (textN Bd.length)) rfl ?_
  clear hp; intro w hp
  refine W_bslice2 hp Try.underlying30 sz45 zv45 rfl rfl  rfl rfl  (fun v0 v1 => v0.cells.toList ++ v1.cells.toList) rfl rfl rfl ?_
  clear hp; intro b18 w hp
  try simp only [Value.cells, List.toList_toArray, List.cons_append, List.nil_append, List.append_nil] at hp
  simp only [List.nil_append] at hos
  refine W_append_sl (A := [_]) (B := _) _ rfl hp rfl Try.underlying30 sz45 pb45 zv45 rfl rfl rfl rfl hos (Rd.own hp (by first | exact List.mem_cons_self | exact .tail _ (.head _) | exact .tail _ (.tail _ (.head _)) | exact .tail _ (.tail _ (.tail _ (.head _))) | exact .tail _ (.tail _ (.tail _ (.tail _ (.head _)))) | exact .tail _ (.tail _ (.tail _ (.tail _ (.tail _ (.head _))))) | exact List.mem_append_right _ (.head _) | exact List.mem_append_right _ (.tail _ (.head _)) | exact List.mem_append_right _ (.tail _ (.tail _ (.head _))) | exact .tail _ (List.mem_append_right _ (.head _)) | exact .tail _ (List.mem_append_right _ (.tail _ (.head _))) | assumption | (repeat (first | exact List.mem_cons_self | apply List.mem_append_right | apply List.mem_cons_of_mem))) (List.prefix_refl _)) ?_ ?_ ?_ ?_ rfl ?_
  · rfl
  · simp [Value.oneCell', strV]
  · (simp only [maxLen]; omega)
  · omega
  clear hp; intro va19 Hs w hos hp
  replace hos := OSp.app (b := [ctF plainT, clF Bd]) rfl rfl hos
  obtain ⟨Aa19, ca19, rfl⟩ := hos.form
  refine W_assign rfl rfl ?_
  refine W_nil ?_
  refine N_then_k ?_
  refine K_seq ?_
  refine K_region ?_
  refine W_move rfl rfl ?_
  refine W_move rfl rfl ?_
  refine W_move rfl rfl ?_
  refine W_conv_sb hp Try.underlying9 Try.underlying23 Try.underlying5 rfl (by omega) rfl ?_
  clear hp; intro bc cp zs fz w hzs hcm hfz hp
  refine W_build3 rfl rfl rfl  (fun v0 v1 v2 => [v0, v1, v2]) (by kernel_rfl) rfl ?_
  first
    | (refine W_storeF (A := []) hp rfl sz32 rfl rfl rfl rfl ?_ ?_ ?_ rfl ?_; (focus first | exact Nat.le_of_ble_eq_true rfl | omega | (simp; omega)); (focus first | exact .inl (Nat.zero_le _) | omega); (focus first | (intro v hv; simp at hv; subst hv; rfl) | (simp [Value.oneCell']; done) | (simp [Value.oneCell', strV]; done) | (simp [Value.cells, Value.oneCell', strV]; done)))
    | (refine W_storeF (A := [_]) hp rfl sz32 rfl rfl rfl rfl ?_ ?_ ?_ rfl ?_; (focus first | exact Nat.le_of_ble_eq_true rfl | omega | (simp; omega)); (focus first | exact .inl (Nat.zero_le _) | omega); (focus first | (intro v hv; simp at hv; subst hv; rfl) | (simp [Value.oneCell']; done) | (simp [Value.oneCell', strV]; done) | (simp [Value.cells, Value.oneCell', strV]; done)))
    | (refine W_storeF (A := [_, _]) hp rfl sz32 rfl rfl rfl rfl ?_ ?_ ?_ rfl ?_; (focus first | exact Nat.le_of_ble_eq_true rfl | omega | (simp; omega)); (focus first | exact .inl (Nat.zero_le _) | omega); (focus first | (intro v hv; simp at hv; subst hv; rfl) | (simp [Value.oneCell']; done) | (simp [Value.oneCell', strV]; done) | (simp [Value.cells, Value.oneCell', strV]; done)))
    | (refine W_storeF (A := [_, _, _]) hp rfl sz32 rfl rfl rfl rfl ?_ ?_ ?_ rfl ?_; (focus first | exact Nat.le_of_ble_eq_true rfl | omega | (simp; omega)); (focus first | exact .inl (Nat.zero_le _) | omega); (focus first | (intro v hv; simp at hv; subst hv; rfl) | (simp [Value.oneCell']; done) | (simp [Value.oneCell', strV]; done) | (simp [Value.cells, Value.oneCell', strV]; done)))
    | (refine W_storeF (A := [_, _, _, _]) hp rfl sz32 rfl rfl rfl rfl ?_ ?_ ?_ rfl ?_; (focus first | exact Nat.le_of_ble_eq_true rfl | omega | (simp; omega)); (focus first | exact .inl (Nat.zero_le _) | omega); (focus first | (intro v hv; simp at hv; subst hv; rfl) | (simp [Value.oneCell']; done) | (simp [Value.oneCell', strV]; done) | (simp [Value.cells, Value.oneCell', strV]; done)))
    | (refine W_storeF (A := [_, _, _, _, _]) hp rfl sz32 rfl rfl rfl rfl ?_ ?_ ?_ rfl ?_; (focus first | exact Nat.le_of_ble_eq_true rfl | omega | (simp; omega)); (focus first | exact .inl (Nat.zero_le _) | omega); (focus first | (intro v hv; simp at hv; subst hv; rfl) | (simp [Value.oneCell']; done) | (simp [Value.oneCell', strV]; done) | (simp [Value.cells, Value.oneCell', strV]; done)))
    | (refine W_storeM (A := []) hp rfl sz32 rfl rfl rfl rfl ?_ ?_ ?_ rfl ?_; (focus first | exact Nat.le_of_ble_eq_true rfl | omega | (simp; omega)); (focus first | exact .inl (Nat.zero_le _) | omega); (focus first | (intro v hv; simp at hv; subst hv; rfl) | (simp [Value.oneCell']; done) | (simp [Value.oneCell', strV]; done) | (simp [Value.cells, Value.oneCell', strV]; done)))
    | (refine W_storeM (A := [_]) hp rfl sz32 rfl rfl rfl rfl ?_ ?_ ?_ rfl ?_; (focus first | exact Nat.le_of_ble_eq_true rfl | omega | (simp; omega)); (focus first | exact .inl (Nat.zero_le _) | omega); (focus first | (intro v hv; simp at hv; subst hv; rfl) | (simp [Value.oneCell']; done) | (simp [Value.oneCell', strV]; done) | (simp [Value.cells, Value.oneCell', strV]; done)))
    | (refine W_storeM (A := [_, _]) hp rfl sz32 rfl rfl rfl rfl ?_ ?_ ?_ rfl ?_; (focus first | exact Nat.le_of_ble_eq_true rfl | omega | (simp; omega)); (focus first | exact .inl (Nat.zero_le _) | omega); (focus first | (intro v hv; simp at hv; subst hv; rfl) | (simp [Value.oneCell']; done) | (simp [Value.oneCell', strV]; done) | (simp [Value.cells, Value.oneCell', strV]; done)))
    | (refine W_storeP hp sz32 rfl rfl rfl rfl (by repeat (first | exact Pick.here | apply Pick.cons | apply Pick.app)) ?_ ?_ ?_ rfl ?_; (focus first | exact Nat.le_of_ble_eq_true rfl | omega | (simp; omega)); (focus first | exact .inl (Nat.zero_le _) | omega); (focus first | (intro v hv; simp at hv; subst hv; rfl) | (simp [Value.oneCell']; done) | (simp [Value.oneCell', strV]; done) | (simp [Value.cells, Value.oneCell', strV]; done)))
  clear hp; intro w hp
  simp only [List.nil_append, List.cons_append, List.append_nil, List.take_succ_cons, List.take_zero, List.drop_succ_cons, List.drop_zero, List.take_nil, List.drop_nil, Nat.zero_add, Nat.add_zero, Nat.reduceAdd, Int.reduceToNat, Int.toNat_natCast, Nat.reduceMul, Nat.mul_one, Nat.zero_mul] at hp
  refine W_nil ?_
  refine N_then_k ?_
  refine K_ret ?_
  refine N_doneL (.inr rfl) rfl (RVs_cons (RV_agg rfl Try.underlying32 rfl sz32 hp (by first | exact List.mem_cons_self | exact .tail _ (.head _) | exact .tail _ (.tail _ (.head _)) | exact .tail _ (.tail _ (.tail _ (.head _))) | exact .tail _ (.tail _ (.tail _ (.tail _ (.head _)))) | exact .tail _ (.tail _ (.tail _ (.tail _ (.tail _ (.head _))))) | exact List.mem_append_right _ (.head _) | exact List.mem_append_right _ (.tail _ (.head _)) | exact List.mem_append_right _ (.tail _ (.tail _ (.head _))) | exact .tail _ (List.mem_append_right _ (.head _)) | exact .tail _ (List.mem_append_right _ (.tail _ (.head _))) | assumption | (repeat (first | exact List.mem_cons_self | apply List.mem_append_right | apply List.mem_cons_of_mem))) (by first | rfl | (simp; done))) (RVs_nil)) rfl ?_
  refine ⟨_, rfl, (bc, _) :: Hs, hp.drop (by repeat (first | exact List.Sublist.refl _ | exact List.nil_sublist _ | exact List.sublist_append_left _ _ | refine List.Sublist.append (List.Sublist.refl _) ?_ | refine List.Sublist.cons_cons _ ?_ | apply List.sublist_append_of_sublist_right | apply List.Sublist.cons)), ⟨_, _, Hs, [(bc, _)], rfl, ?_, ?_, rfl⟩⟩
  · simpa using hos
  · exact OSb.conv hzs hcm hfz

theorem rFile_spec (w0 : World) (ty : List UInt8) (d : Bool) (B : List UInt8) (Ab : Option Addr) (cb : Nat) (hrb : Rd w0 (.slice Ab B.length cb) B.length (bytesV B)) (Ap : Option Addr) (np cp : Nat) (hB : B.length ≤ 100000000) : RetB Try.prog 14 [.agg #[.slice Ap np cp, .bool d, .string ⟨ty.toArray⟩, .slice Ab B.length cb]] (fun v G => RespR 200 ([ctF ty] ++ [clF B]) (.slice Ab B.length cb) v G) w0 := by
  refine RetB.intro go14 Try.func14 rfl rfl fun hp => ?_
  refine (fun (hk : ∀ w, Hp w0 [] [] w → K _ _ _ _ _ w) => hk w0 hp) fun w hp => ?_
  refine K_seq ?_
  refine K_region ?_
  refine W_box hp rfl rfl rfl ?_
  clear hp; intro b1 w hp
  refine W_alloc hp zv32 rfl rfl ?_
  clear hp; intro b2 w hp
  refine W_nil ?_
  refine N_then_k ?_
  refine K_seq ?_
  refine K_held (Hp w0 [] [(b1, .cells [.slice Ap np cp, .bool d, .string ⟨ty.toArray⟩, .slice Ab B.length cb].toArray 25)]) (.first 0 (.first 1 (.first 3 (.first 4 (.first 5 (.first 9 (.first 10 (.only 2 (.only 6 (.only 7 (.only 8 (.first 11 (.only 12 .done))))))))))))) hm hp (by kernel_rfl) (by kernel_rfl) (.first rfl (.first rfl (.first rfl (.first rfl (.first rfl (.first rfl (.first rfl (.only rfl (.only rfl (.only rfl (.only rfl (.first rfl (.only rfl .done))))))))))))) ?_
  clear hp; intro w hp
  refine Wh_val (by first | exact hp | (refine hp.drop ?_; repeat (first | exact List.Sublist.refl _ | exact List.nil_sublist _ | refine List.Sublist.cons_cons _ ?_ | apply List.sublist_append_of_sublist_right | apply List.Sublist.cons))) (fun w hp => R_fieldAddr Try.underlying25 rfl sz9 rfl) rfl ?_
  refine Wh_val (by first | exact hp | (refine hp.drop ?_; repeat (first | exact List.Sublist.refl _ | exact List.nil_sublist _ | refine List.Sublist.cons_cons _ ?_ | apply List.sublist_append_of_sublist_right | apply List.Sublist.cons))) (fun w hp => R_load_s Try.underlying9 rfl rfl (by first | exact hp.cellF (by first | exact List.mem_cons_self | exact .tail _ (.head _) | exact .tail _ (.tail _ (.head _)) | exact .tail _ (.tail _ (.tail _ (.head _))) | exact .tail _ (.tail _ (.tail _ (.tail _ (.head _)))) | exact .tail _ (.tail _ (.tail _ (.tail _ (.tail _ (.head _))))) | exact List.mem_append_right _ (.head _) | exact List.mem_append_right _ (.tail _ (.head _)) | exact List.mem_append_right _ (.tail _ (.tail _ (.head _))) | exact .tail _ (List.mem_append_right _ (.head _)) | exact .tail _ (List.mem_append_right _ (.tail _ (.head _))) | assumption | (repeat (first | exact List.mem_cons_self | apply List.mem_append_right | apply List.mem_cons_of_mem))) rfl | exact hp.cellM (by first | exact List.mem_cons_self | exact .tail _ (.head _) | exact .tail _ (.tail _ (.head _)) | exact .tail _ (.tail _ (.tail _ (.head _))) | exact .tail _ (.tail _ (.tail _ (.tail _ (.head _)))) | exact .tail _ (.tail _ (.tail _ (.tail _ (.tail _ (.head _))))) | exact List.mem_append_right _ (.head _) | exact List.mem_append_right _ (.tail _ (.head _)) | exact List.mem_append_right _ (.tail _ (.tail _ (.head _))) | exact .tail _ (List.mem_append_right _ (.head _)) | exact .tail _ (List.mem_append_right _ (.tail _ (.head _))) | assumption | (repeat (first | exact List.mem_cons_self | apply List.mem_append_right | apply List.mem_cons_of_mem))) rfl | exact hp.cell_old0 ‹_› | (refine hp.cell_old0 ?_; assumption) | (apply hp.cellF (by assumption); rfl))) rfl ?_
  refine Wh_val (by first | exact hp | (refine hp.drop ?_; repeat (first | exact List.Sublist.refl _ | exact List.nil_sublist _ | refine List.Sublist.cons_cons _ ?_ | apply List.sublist_append_of_sublist_right | apply List.Sublist.cons))) (fun w hp => R_fieldAddr Try.underlying25 rfl sz23 rfl) rfl ?_
  refine Wh_val (by first | exact hp | (refine hp.drop ?_; repeat (first | exact List.Sublist.refl _ | exact List.nil_sublist _ | refine List.Sublist.cons_cons _ ?_ | apply List.sublist_append_of_sublist_right | apply List.Sublist.cons))) (fun w hp => R_load_s Try.underlying23 rfl rfl (by first | exact hp.cellF (by first | exact List.mem_cons_self | exact .tail _ (.head _) | exact .tail _ (.tail _ (.head _)) | exact .tail _ (.tail _ (.tail _ (.head _))) | exact .tail _ (.tail _ (.tail _ (.tail _ (.head _)))) | exact .tail _ (.tail _ (.tail _ (.tail _ (.tail _ (.head _))))) | exact List.mem_append_right _ (.head _) | exact List.mem_append_right _ (.tail _ (.head _)) | exact List.mem_append_right _ (.tail _ (.tail _ (.head _))) | exact .tail _ (List.mem_append_right _ (.head _)) | exact .tail _ (List.mem_append_right _ (.tail _ (.head _))) | assumption | (repeat (first | exact List.mem_cons_self | apply List.mem_append_right | apply List.mem_cons_of_mem))) rfl | exact hp.cellM (by first | exact List.mem_cons_self | exact .tail _ (.head _) | exact .tail _ (.tail _ (.head _)) | exact .tail _ (.tail _ (.tail _ (.head _))) | exact .tail _ (.tail _ (.tail _ (.tail _ (.head _)))) | exact .tail _ (.tail _ (.tail _ (.tail _ (.tail _ (.head _))))) | exact List.mem_append_right _ (.head _) | exact List.mem_append_right _ (.tail _ (.head _)) | exact List.mem_append_right _ (.tail _ (.tail _ (.head _))) | exact .tail _ (List.mem_append_right _ (.head _)) | exact .tail _ (List.mem_append_right _ (.tail _ (.head _))) | assumption | (repeat (first | exact List.mem_cons_self | apply List.mem_append_right | apply List.mem_cons_of_mem))) rfl | exact hp.cell_old0 ‹_› | (refine hp.cell_old0 ?_; assumption) | (apply hp.cellF (by assumption); rfl))) rfl ?_
  refine Wh_val (by first | exact hp | (refine hp.drop ?_; repeat (first | exact List.Sublist.refl _ | exact List.nil_sublist _ | refine List.Sublist.cons_cons _ ?_ | apply List.sublist_append_of_sublist_right | apply List.Sublist.cons))) (fun w hp => R_len_sl Try.underlying23 rfl) rfl ?_
  refine Wh_val (by first | exact hp | (refine hp.drop ?_; repeat (first | exact List.Sublist.refl _ | exact List.nil_sublist _ | refine List.Sublist.cons_cons _ ?_ | apply List.sublist_append_of_sublist_right | apply List.Sublist.cons))) (fun w hp => R_fieldAddr Try.underlying25 rfl sz23 rfl) rfl ?_
  refine Wh_val (by first | exact hp | (refine hp.drop ?_; repeat (first | exact List.Sublist.refl _ | exact List.nil_sublist _ | refine List.Sublist.cons_cons _ ?_ | apply List.sublist_append_of_sublist_right | apply List.Sublist.cons))) (fun w hp => R_load_s Try.underlying23 rfl rfl (by first | exact hp.cellF (by first | exact List.mem_cons_self | exact .tail _ (.head _) | exact .tail _ (.tail _ (.head _)) | exact .tail _ (.tail _ (.tail _ (.head _))) | exact .tail _ (.tail _ (.tail _ (.tail _ (.head _)))) | exact .tail _ (.tail _ (.tail _ (.tail _ (.tail _ (.head _))))) | exact List.mem_append_right _ (.head _) | exact List.mem_append_right _ (.tail _ (.head _)) | exact List.mem_append_right _ (.tail _ (.tail _ (.head _))) | exact .tail _ (List.mem_append_right _ (.head _)) | exact .tail _ (List.mem_append_right _ (.tail _ (.head _))) | assumption | (repeat (first | exact List.mem_cons_self | apply List.mem_append_right | apply List.mem_cons_of_mem))) rfl | exact hp.cellM (by first | exact List.mem_cons_self | exact .tail _ (.head _) | exact .tail _ (.tail _ (.head _)) | exact .tail _ (.tail _ (.tail _ (.head _))) | exact .tail _ (.tail _ (.tail _ (.tail _ (.head _)))) | exact .tail _ (.tail _ (.tail _ (.tail _ (.tail _ (.head _))))) | exact List.mem_append_right _ (.head _) | exact List.mem_append_right _ (.tail _ (.head _)) | exact List.mem_append_right _ (.tail _ (.tail _ (.head _))) | exact .tail _ (List.mem_append_right _ (.head _)) | exact .tail _ (List.mem_append_right _ (.tail _ (.head _))) | assumption | (repeat (first | exact List.mem_cons_self | apply List.mem_append_right | apply List.mem_cons_of_mem))) rfl | exact hp.cell_old0 ‹_› | (refine hp.cell_old0 ?_; assumption) | (apply hp.cellF (by assumption); rfl))) rfl ?_
  refine Wh_step ?_
  refine W_pcall hp rfl (rfield_spec [67, 111, 110, 116, 101, 110, 116, 45, 84, 121, 112, 101] ty) rfl ?_
  clear hp; intro w hp
  refine W_nil ?_
  refine Wh_next (by first | exact hp | (refine hp.drop ?_; repeat (first | exact List.Sublist.refl _ | exact List.nil_sublist _ | refine List.Sublist.cons_cons _ ?_ | apply List.sublist_append_of_sublist_right | apply List.Sublist.cons))) ?_
  refine Wh_step ?_
  refine W_pcall hp rfl (rtext_spec B.length (by omega)) rfl ?_
  clear hp; intro w hp
  refine W_nil ?_
  refine Wh_next (by first | exact hp | (refine hp.drop ?_; repeat (first | exact List.Sublist.refl _ | exact List.nil_sublist _ | refine List.Sublist.cons_cons _ ?_ | apply List.sublist_append_of_sublist_right | apply List.Sublist.cons))) ?_
  refine Wh_step ?_
  refine W_pcall hp rfl (rfield_spec [67, 111, 110, 116, 101, 110, 116, 45, 76, 101, 110, 103, 116, 104] (textN B.length)) rfl ?_
  clear hp; intro w hp
  refine W_nil ?_
  refine Wh_next (by first | exact hp | (refine hp.drop ?_; repeat (first | exact List.Sublist.refl _ | exact List.nil_sublist _ | refine List.Sublist.cons_cons _ ?_ | apply List.sublist_append_of_sublist_right | apply List.Sublist.cons))) ?_
  refine Wh_step ?_
  refine W_bslice2 hp Try.underlying30 sz45 zv45 rfl rfl  rfl rfl  (fun v0 v1 => v0.cells.toList ++ v1.cells.toList) rfl rfl rfl ?_
  clear hp; intro b11 w hp
  try simp only [Value.cells, List.toList_toArray, List.cons_append, List.nil_append, List.append_nil] at hp
  refine W_nil ?_
  refine Wh_next (by first | exact hp | (refine hp.drop ?_; repeat (first | exact List.Sublist.refl _ | exact List.nil_sublist _ | refine List.Sublist.cons_cons _ ?_ | apply List.sublist_append_of_sublist_right | apply List.Sublist.cons))) ?_
  refine Wh_val (by first | exact hp | (refine hp.drop ?_; repeat (first | exact List.Sublist.refl _ | exact List.nil_sublist _ | refine List.Sublist.cons_cons _ ?_ | apply List.sublist_append_of_sublist_right | apply List.Sublist.cons))) (fun w hp => R_build3 rfl rfl rfl  (fun v0 v1 v2 => [v0, v1, v2]) (by kernel_rfl)) rfl ?_
  refine Wh_step ?_
  first
    | (refine W_storeF (A := []) hp rfl sz32 rfl rfl rfl rfl ?_ ?_ ?_ rfl ?_; (focus first | exact Nat.le_of_ble_eq_true rfl | omega | (simp; omega)); (focus first | exact .inl (Nat.zero_le _) | omega); (focus first | (intro v hv; simp at hv; subst hv; rfl) | (simp [Value.oneCell']; done) | (simp [Value.oneCell', strV]; done) | (simp [Value.cells, Value.oneCell', strV]; done)))
    | (refine W_storeF (A := [_]) hp rfl sz32 rfl rfl rfl rfl ?_ ?_ ?_ rfl ?_; (focus first | exact Nat.le_of_ble_eq_true rfl | omega | (simp; omega)); (focus first | exact .inl (Nat.zero_le _) | omega); (focus first | (intro v hv; simp at hv; subst hv; rfl) | (simp [Value.oneCell']; done) | (simp [Value.oneCell', strV]; done) | (simp [Value.cells, Value.oneCell', strV]; done)))
    | (refine W_storeF (A := [_, _]) hp rfl sz32 rfl rfl rfl rfl ?_ ?_ ?_ rfl ?_; (focus first | exact Nat.le_of_ble_eq_true rfl | omega | (simp; omega)); (focus first | exact .inl (Nat.zero_le _) | omega); (focus first | (intro v hv; simp at hv; subst hv; rfl) | (simp [Value.oneCell']; done) | (simp [Value.oneCell', strV]; done) | (simp [Value.cells, Value.oneCell', strV]; done)))
    | (refine W_storeF (A := [_, _, _]) hp rfl sz32 rfl rfl rfl rfl ?_ ?_ ?_ rfl ?_; (focus first | exact Nat.le_of_ble_eq_true rfl | omega | (simp; omega)); (focus first | exact .inl (Nat.zero_le _) | omega); (focus first | (intro v hv; simp at hv; subst hv; rfl) | (simp [Value.oneCell']; done) | (simp [Value.oneCell', strV]; done) | (simp [Value.cells, Value.oneCell', strV]; done)))
    | (refine W_storeF (A := [_, _, _, _]) hp rfl sz32 rfl rfl rfl rfl ?_ ?_ ?_ rfl ?_; (focus first | exact Nat.le_of_ble_eq_true rfl | omega | (simp; omega)); (focus first | exact .inl (Nat.zero_le _) | omega); (focus first | (intro v hv; simp at hv; subst hv; rfl) | (simp [Value.oneCell']; done) | (simp [Value.oneCell', strV]; done) | (simp [Value.cells, Value.oneCell', strV]; done)))
    | (refine W_storeF (A := [_, _, _, _, _]) hp rfl sz32 rfl rfl rfl rfl ?_ ?_ ?_ rfl ?_; (focus first | exact Nat.le_of_ble_eq_true rfl | omega | (simp; omega)); (focus first | exact .inl (Nat.zero_le _) | omega); (focus first | (intro v hv; simp at hv; subst hv; rfl) | (simp [Value.oneCell']; done) | (simp [Value.oneCell', strV]; done) | (simp [Value.cells, Value.oneCell', strV]; done)))
    | (refine W_storeM (A := []) hp rfl sz32 rfl rfl rfl rfl ?_ ?_ ?_ rfl ?_; (focus first | exact Nat.le_of_ble_eq_true rfl | omega | (simp; omega)); (focus first | exact .inl (Nat.zero_le _) | omega); (focus first | (intro v hv; simp at hv; subst hv; rfl) | (simp [Value.oneCell']; done) | (simp [Value.oneCell', strV]; done) | (simp [Value.cells, Value.oneCell', strV]; done)))
    | (refine W_storeM (A := [_]) hp rfl sz32 rfl rfl rfl rfl ?_ ?_ ?_ rfl ?_; (focus first | exact Nat.le_of_ble_eq_true rfl | omega | (simp; omega)); (focus first | exact .inl (Nat.zero_le _) | omega); (focus first | (intro v hv; simp at hv; subst hv; rfl) | (simp [Value.oneCell']; done) | (simp [Value.oneCell', strV]; done) | (simp [Value.cells, Value.oneCell', strV]; done)))
    | (refine W_storeM (A := [_, _]) hp rfl sz32 rfl rfl rfl rfl ?_ ?_ ?_ rfl ?_; (focus first | exact Nat.le_of_ble_eq_true rfl | omega | (simp; omega)); (focus first | exact .inl (Nat.zero_le _) | omega); (focus first | (intro v hv; simp at hv; subst hv; rfl) | (simp [Value.oneCell']; done) | (simp [Value.oneCell', strV]; done) | (simp [Value.cells, Value.oneCell', strV]; done)))
    | (refine W_storeP hp sz32 rfl rfl rfl rfl (by repeat (first | exact Pick.here | apply Pick.cons | apply Pick.app)) ?_ ?_ ?_ rfl ?_; (focus first | exact Nat.le_of_ble_eq_true rfl | omega | (simp; omega)); (focus first | exact .inl (Nat.zero_le _) | omega); (focus first | (intro v hv; simp at hv; subst hv; rfl) | (simp [Value.oneCell']; done) | (simp [Value.oneCell', strV]; done) | (simp [Value.cells, Value.oneCell', strV]; done)))
  clear hp; intro w hp
  simp only [List.nil_append, List.cons_append, List.append_nil, List.take_succ_cons, List.take_zero, List.drop_succ_cons, List.drop_zero, List.take_nil, List.drop_nil, Nat.zero_add, Nat.add_zero, Nat.reduceAdd, Int.reduceToNat, Int.toNat_natCast, Nat.reduceMul, Nat.mul_one, Nat.zero_mul] at hp
  refine W_nil ?_
  refine Wh_next (by first | exact hp | (refine hp.drop ?_; repeat (first | exact List.Sublist.refl _ | exact List.nil_sublist _ | refine List.Sublist.cons_cons _ ?_ | apply List.sublist_append_of_sublist_right | apply List.Sublist.cons))) ?_
  refine Wh_nil ?_
  refine N_then_k ?_
  refine K_ret ?_
  refine N_doneL (.inr rfl) rfl (RVs_cons (RV_agg rfl Try.underlying32 rfl sz32 hp (by first | exact List.mem_cons_self | exact .tail _ (.head _) | exact .tail _ (.tail _ (.head _)) | exact .tail _ (.tail _ (.tail _ (.head _))) | exact .tail _ (.tail _ (.tail _ (.tail _ (.head _)))) | exact .tail _ (.tail _ (.tail _ (.tail _ (.tail _ (.head _))))) | exact List.mem_append_right _ (.head _) | exact List.mem_append_right _ (.tail _ (.head _)) | exact List.mem_append_right _ (.tail _ (.tail _ (.head _))) | exact .tail _ (List.mem_append_right _ (.head _)) | exact .tail _ (List.mem_append_right _ (.tail _ (.head _))) | assumption | (repeat (first | exact List.mem_cons_self | apply List.mem_append_right | apply List.mem_cons_of_mem))) (by first | rfl | (simp; done))) (RVs_nil)) rfl ?_
  exact ⟨_, rfl, [_], hp.drop (by repeat (first | exact List.Sublist.refl _ | exact List.nil_sublist _ | exact List.sublist_append_left _ _ | refine List.Sublist.append (List.Sublist.refl _) ?_ | refine List.Sublist.cons_cons _ ?_ | apply List.sublist_append_of_sublist_right | apply List.Sublist.cons)), ⟨_, rfl, OS.lit (k := 2) rfl (by decide)⟩⟩

theorem rMoved_spec (w0 : World) (t : List UInt8) (hl : t.length ≤ 100000) : RetB Try.prog 16 [.string ⟨t.toArray⟩] (fun v G => RespO 301 (shortL 301 [([76, 111, 99, 97, 116, 105, 111, 110], cleanL t)]) (reasonF 301 ++ [10]) v G) w0 := by
  refine RetB.intro go16 Try.func16 rfl rfl fun hp => ?_
  refine (fun (hk : ∀ w, Hp w0 [] [] w → K _ _ _ _ _ w) => hk w0 hp) fun w hp => ?_
  refine K_seq ?_
  refine K_region ?_
  refine W_alloc hp zv32 rfl rfl ?_
  clear hp; intro b2 w hp
  refine W_nil ?_
  refine N_then_k ?_
  refine K_seq ?_
  refine K_region ?_
  refine W_move rfl rfl ?_
  refine W_pcall hp rfl (rclean_spec t (by omega)) rfl ?_
  clear hp; intro w hp
  refine W_pcall hp rfl (rfield_spec [76, 111, 99, 97, 116, 105, 111, 110] (cleanL t)) rfl ?_
  clear hp; intro w hp
  refine W_bslice1 hp Try.underlying30 sz45 zv45 rfl  rfl  (fun v0 => v0.cells.toList) rfl rfl rfl ?_
  clear hp; intro b6 w hp
  try simp only [Value.cells, List.toList_toArray, List.cons_append, List.nil_append, List.append_nil] at hp
  refine W_bcall hp rfl ((rShort_spec w 301 [([76, 111, 99, 97, 116, 105, 111, 110], cleanL t)] _ _ (Rd.own hp List.mem_cons_self (List.prefix_refl _)) (by simp))) rfl ?_
  clear hp; intro v7 G7 w r7 hp
  obtain ⟨Af7, cf7, Ab7, cb7, Gf7, Gb7, rfl, hf7, hb7, rfl⟩ := RespO.form r7
  first
    | (refine W_storeF (A := []) hp rfl sz32 rfl rfl rfl rfl ?_ ?_ ?_ rfl ?_; (focus first | exact Nat.le_of_ble_eq_true rfl | omega | (simp; omega)); (focus first | exact .inl (Nat.zero_le _) | omega); (focus first | (intro v hv; simp at hv; subst hv; rfl) | (simp [Value.oneCell']; done) | (simp [Value.oneCell', strV]; done) | (simp [Value.cells, Value.oneCell', strV]; done)))
    | (refine W_storeF (A := [_]) hp rfl sz32 rfl rfl rfl rfl ?_ ?_ ?_ rfl ?_; (focus first | exact Nat.le_of_ble_eq_true rfl | omega | (simp; omega)); (focus first | exact .inl (Nat.zero_le _) | omega); (focus first | (intro v hv; simp at hv; subst hv; rfl) | (simp [Value.oneCell']; done) | (simp [Value.oneCell', strV]; done) | (simp [Value.cells, Value.oneCell', strV]; done)))
    | (refine W_storeF (A := [_, _]) hp rfl sz32 rfl rfl rfl rfl ?_ ?_ ?_ rfl ?_; (focus first | exact Nat.le_of_ble_eq_true rfl | omega | (simp; omega)); (focus first | exact .inl (Nat.zero_le _) | omega); (focus first | (intro v hv; simp at hv; subst hv; rfl) | (simp [Value.oneCell']; done) | (simp [Value.oneCell', strV]; done) | (simp [Value.cells, Value.oneCell', strV]; done)))
    | (refine W_storeF (A := [_, _, _]) hp rfl sz32 rfl rfl rfl rfl ?_ ?_ ?_ rfl ?_; (focus first | exact Nat.le_of_ble_eq_true rfl | omega | (simp; omega)); (focus first | exact .inl (Nat.zero_le _) | omega); (focus first | (intro v hv; simp at hv; subst hv; rfl) | (simp [Value.oneCell']; done) | (simp [Value.oneCell', strV]; done) | (simp [Value.cells, Value.oneCell', strV]; done)))
    | (refine W_storeF (A := [_, _, _, _]) hp rfl sz32 rfl rfl rfl rfl ?_ ?_ ?_ rfl ?_; (focus first | exact Nat.le_of_ble_eq_true rfl | omega | (simp; omega)); (focus first | exact .inl (Nat.zero_le _) | omega); (focus first | (intro v hv; simp at hv; subst hv; rfl) | (simp [Value.oneCell']; done) | (simp [Value.oneCell', strV]; done) | (simp [Value.cells, Value.oneCell', strV]; done)))
    | (refine W_storeF (A := [_, _, _, _, _]) hp rfl sz32 rfl rfl rfl rfl ?_ ?_ ?_ rfl ?_; (focus first | exact Nat.le_of_ble_eq_true rfl | omega | (simp; omega)); (focus first | exact .inl (Nat.zero_le _) | omega); (focus first | (intro v hv; simp at hv; subst hv; rfl) | (simp [Value.oneCell']; done) | (simp [Value.oneCell', strV]; done) | (simp [Value.cells, Value.oneCell', strV]; done)))
    | (refine W_storeM (A := []) hp rfl sz32 rfl rfl rfl rfl ?_ ?_ ?_ rfl ?_; (focus first | exact Nat.le_of_ble_eq_true rfl | omega | (simp; omega)); (focus first | exact .inl (Nat.zero_le _) | omega); (focus first | (intro v hv; simp at hv; subst hv; rfl) | (simp [Value.oneCell']; done) | (simp [Value.oneCell', strV]; done) | (simp [Value.cells, Value.oneCell', strV]; done)))
    | (refine W_storeM (A := [_]) hp rfl sz32 rfl rfl rfl rfl ?_ ?_ ?_ rfl ?_; (focus first | exact Nat.le_of_ble_eq_true rfl | omega | (simp; omega)); (focus first | exact .inl (Nat.zero_le _) | omega); (focus first | (intro v hv; simp at hv; subst hv; rfl) | (simp [Value.oneCell']; done) | (simp [Value.oneCell', strV]; done) | (simp [Value.cells, Value.oneCell', strV]; done)))
    | (refine W_storeM (A := [_, _]) hp rfl sz32 rfl rfl rfl rfl ?_ ?_ ?_ rfl ?_; (focus first | exact Nat.le_of_ble_eq_true rfl | omega | (simp; omega)); (focus first | exact .inl (Nat.zero_le _) | omega); (focus first | (intro v hv; simp at hv; subst hv; rfl) | (simp [Value.oneCell']; done) | (simp [Value.oneCell', strV]; done) | (simp [Value.cells, Value.oneCell', strV]; done)))
    | (refine W_storeP hp sz32 rfl rfl rfl rfl (by repeat (first | exact Pick.here | apply Pick.cons | apply Pick.app)) ?_ ?_ ?_ rfl ?_; (focus first | exact Nat.le_of_ble_eq_true rfl | omega | (simp; omega)); (focus first | exact .inl (Nat.zero_le _) | omega); (focus first | (intro v hv; simp at hv; subst hv; rfl) | (simp [Value.oneCell']; done) | (simp [Value.oneCell', strV]; done) | (simp [Value.cells, Value.oneCell', strV]; done)))
  clear hp; intro w hp
  simp only [List.nil_append, List.cons_append, List.append_nil, List.take_succ_cons, List.take_zero, List.drop_succ_cons, List.drop_zero, List.take_nil, List.drop_nil, Nat.zero_add, Nat.add_zero, Nat.reduceAdd, Int.reduceToNat, Int.toNat_natCast, Nat.reduceMul, Nat.mul_one, Nat.zero_mul] at hp
  refine W_nil ?_
  refine N_then_k ?_
  refine K_ret ?_
  refine N_doneL (.inr rfl) rfl (RVs_cons (RV_agg rfl Try.underlying32 rfl sz32 hp (by first | exact List.mem_cons_self | exact .tail _ (.head _) | exact .tail _ (.tail _ (.head _)) | exact .tail _ (.tail _ (.tail _ (.head _))) | exact .tail _ (.tail _ (.tail _ (.tail _ (.head _)))) | exact .tail _ (.tail _ (.tail _ (.tail _ (.tail _ (.head _))))) | exact List.mem_append_right _ (.head _) | exact List.mem_append_right _ (.tail _ (.head _)) | exact List.mem_append_right _ (.tail _ (.tail _ (.head _))) | exact .tail _ (List.mem_append_right _ (.head _)) | exact .tail _ (List.mem_append_right _ (.tail _ (.head _))) | assumption | (repeat (first | exact List.mem_cons_self | apply List.mem_append_right | apply List.mem_cons_of_mem))) (by first | rfl | (simp; done))) (RVs_nil)) rfl ?_
  exact ⟨_, rfl, Gb7 ++ Gf7, hp.drop (by repeat (first | exact List.Sublist.refl _ | exact List.nil_sublist _ | exact List.sublist_append_left _ _ | refine List.Sublist.append (List.Sublist.refl _) ?_ | refine List.Sublist.cons_cons _ ?_ | apply List.sublist_append_of_sublist_right | apply List.Sublist.cons)), ⟨_, _, _, _, rfl, hf7, hb7, rfl⟩⟩

theorem rDenied_spec (w0 : World) (t : List UInt8) (hl : t.length ≤ 100000) : RetB Try.prog 18 [.string ⟨t.toArray⟩] (fun v G => RespO 401 (shortL 401 [([87, 87, 87, 45, 65, 117, 116, 104, 101, 110, 116, 105, 99, 97, 116, 101], deniedV t)]) (reasonF 401 ++ [10]) v G) w0 := by
  have hcl : (cleanL t).length = t.length := by simp [cleanL]
  have hql := quoteB_length (cleanL t)
  have hqq : (quote (cleanL t)).length ≤ 2 * (cleanL t).length + 2 := by simp [quote]; omega
  rcases Bool.eq_false_or_eq_true ((cleanL t).all fieldB) with hf | hf
  all_goals first | (have hdv : deniedV t = [66, 97, 115, 105, 99, 32, 114, 101, 97, 108, 109, 61] ++ quote (cleanL t) := by unfold deniedV; rw [if_pos hf]) | (have hdv : deniedV t = [66, 97, 115, 105, 99, 32, 114, 101, 97, 108, 109, 61] ++ [34, 34] := by unfold deniedV; rw [if_neg (by rw [hf]; decide)])
  all_goals rw [hdv]
  all_goals clear hdv
  all_goals first | (have hq1 := rquote_ok (cleanL t) (by omega) hf; generalize quote (cleanL t) = Q at *) | (have hq1 := rquote_no (cleanL t) (by omega) hf)
  all_goals (
   refine RetB.intro go18 Try.func18 rfl rfl fun hp => ?_
   refine (fun (hk : ∀ w, Hp w0 [] [] w → K _ _ _ _ _ w) => hk w0 hp) fun w hp => ?_
   refine K_seq ?_
   refine K_region ?_
   refine W_alloc hp zv32 rfl rfl ?_
   clear hp; intro b2 w hp
   refine W_nil ?_
   refine N_then_k ?_
   refine K_seq ?_
   refine K_region ?_
   refine W_move rfl rfl ?_
   refine W_pcall hp rfl (rclean_spec t (by omega)) rfl ?_
   clear hp; intro w hp
   refine W_pcall hp rfl (hq1) rfl ?_
   clear hp; intro w hp
   refine W_move rfl rfl ?_
   refine W_extract rfl rfl rfl ?_
   refine W_extract rfl rfl rfl ?_
   refine W_assign rfl rfl ?_
   refine W_assign rfl rfl ?_
   refine W_nil ?_
   refine N_then_k ?_
   refine K_seq ?_
   refine K_seq ?_
   refine K_region ?_
   refine W_move rfl rfl ?_
   first
     | (refine W_not_t rfl rfl ?_)
     | (refine W_not_f rfl rfl ?_)
     | (refine W_not rfl rfl ?_)
   refine W_nil ?_
   refine N_then_k ?_
   first
     | refine K_cond_d rfl (fun hc1 => ?_) (fun hc1 => ?_)
     | refine K_cond_n rfl (fun hc1 => ?_) (fun hc1 => ?_)
     | refine K_cond_nb rfl (fun hc1 => ?_) (fun hc1 => ?_)
     | refine K_cond_t rfl (fun hc1 => ?_) (fun hc1 => ?_)
   · try (exfalso; first | omega | (simp only [Bool.false_eq_true, reduceCtorEq] at hc1; done) | (refine absurd hc1 ?_; with_reducible assumption) | (refine absurd ?_ hc1; with_reducible assumption))
     all_goals (
      refine K_region ?_
      refine W_assign rfl rfl ?_
      refine W_nil ?_
      refine N_then_k ?_
      refine K_seq ?_
      refine K_region ?_
      refine W_move rfl rfl ?_
      refine W_sadd rfl rfl ?_ rfl ?_
      (focus (first | omega | (simp only [List.length_append, List.length_cons, List.length_nil, List.length_drop, List.length_take] at *; omega) | (simp; omega)))
      first
        | (refine W_pcall hp rfl (rfield_spec [87, 87, 87, 45, 65, 117, 116, 104, 101, 110, 116, 105, 99, 97, 116, 101] ([66, 97, 115, 105, 99, 32, 114, 101, 97, 108, 109, 61] ++ Q)) rfl ?_)
        | (refine W_pcall hp rfl (rfield_spec [87, 87, 87, 45, 65, 117, 116, 104, 101, 110, 116, 105, 99, 97, 116, 101] ([66, 97, 115, 105, 99, 32, 114, 101, 97, 108, 109, 61] ++ [34, 34])) rfl ?_)
      clear hp; intro w hp
      refine W_bslice1 hp Try.underlying30 sz45 zv45 rfl  rfl  (fun v0 => v0.cells.toList) rfl rfl rfl ?_
      clear hp; intro b16 w hp
      try simp only [Value.cells, List.toList_toArray, List.cons_append, List.nil_append, List.append_nil] at hp
      first
        | (refine W_bcall hp rfl (rShort_spec w 401 [([87, 87, 87, 45, 65, 117, 116, 104, 101, 110, 116, 105, 99, 97, 116, 101], [66, 97, 115, 105, 99, 32, 114, 101, 97, 108, 109, 61] ++ Q)] _ _ (Rd.own hp List.mem_cons_self (List.prefix_refl _)) (by simp)) rfl ?_)
        | (refine W_bcall hp rfl (rShort_spec w 401 [([87, 87, 87, 45, 65, 117, 116, 104, 101, 110, 116, 105, 99, 97, 116, 101], [66, 97, 115, 105, 99, 32, 114, 101, 97, 108, 109, 61] ++ [34, 34])] _ _ (Rd.own hp List.mem_cons_self (List.prefix_refl _)) (by simp)) rfl ?_)
      clear hp; intro v17 G17 w r17 hp
      obtain ⟨Af17, cf17, Ab17, cb17, Gf17, Gb17, rfl, hf17, hb17, rfl⟩ := RespO.form r17
      first
        | (refine W_storeF (A := []) hp rfl sz32 rfl rfl rfl rfl ?_ ?_ ?_ rfl ?_; (focus first | exact Nat.le_of_ble_eq_true rfl | omega | (simp; omega)); (focus first | exact .inl (Nat.zero_le _) | omega); (focus first | (intro v hv; simp at hv; subst hv; rfl) | (simp [Value.oneCell']; done) | (simp [Value.oneCell', strV]; done) | (simp [Value.cells, Value.oneCell', strV]; done)))
        | (refine W_storeF (A := [_]) hp rfl sz32 rfl rfl rfl rfl ?_ ?_ ?_ rfl ?_; (focus first | exact Nat.le_of_ble_eq_true rfl | omega | (simp; omega)); (focus first | exact .inl (Nat.zero_le _) | omega); (focus first | (intro v hv; simp at hv; subst hv; rfl) | (simp [Value.oneCell']; done) | (simp [Value.oneCell', strV]; done) | (simp [Value.cells, Value.oneCell', strV]; done)))
        | (refine W_storeF (A := [_, _]) hp rfl sz32 rfl rfl rfl rfl ?_ ?_ ?_ rfl ?_; (focus first | exact Nat.le_of_ble_eq_true rfl | omega | (simp; omega)); (focus first | exact .inl (Nat.zero_le _) | omega); (focus first | (intro v hv; simp at hv; subst hv; rfl) | (simp [Value.oneCell']; done) | (simp [Value.oneCell', strV]; done) | (simp [Value.cells, Value.oneCell', strV]; done)))
        | (refine W_storeF (A := [_, _, _]) hp rfl sz32 rfl rfl rfl rfl ?_ ?_ ?_ rfl ?_; (focus first | exact Nat.le_of_ble_eq_true rfl | omega | (simp; omega)); (focus first | exact .inl (Nat.zero_le _) | omega); (focus first | (intro v hv; simp at hv; subst hv; rfl) | (simp [Value.oneCell']; done) | (simp [Value.oneCell', strV]; done) | (simp [Value.cells, Value.oneCell', strV]; done)))
        | (refine W_storeF (A := [_, _, _, _]) hp rfl sz32 rfl rfl rfl rfl ?_ ?_ ?_ rfl ?_; (focus first | exact Nat.le_of_ble_eq_true rfl | omega | (simp; omega)); (focus first | exact .inl (Nat.zero_le _) | omega); (focus first | (intro v hv; simp at hv; subst hv; rfl) | (simp [Value.oneCell']; done) | (simp [Value.oneCell', strV]; done) | (simp [Value.cells, Value.oneCell', strV]; done)))
        | (refine W_storeF (A := [_, _, _, _, _]) hp rfl sz32 rfl rfl rfl rfl ?_ ?_ ?_ rfl ?_; (focus first | exact Nat.le_of_ble_eq_true rfl | omega | (simp; omega)); (focus first | exact .inl (Nat.zero_le _) | omega); (focus first | (intro v hv; simp at hv; subst hv; rfl) | (simp [Value.oneCell']; done) | (simp [Value.oneCell', strV]; done) | (simp [Value.cells, Value.oneCell', strV]; done)))
        | (refine W_storeM (A := []) hp rfl sz32 rfl rfl rfl rfl ?_ ?_ ?_ rfl ?_; (focus first | exact Nat.le_of_ble_eq_true rfl | omega | (simp; omega)); (focus first | exact .inl (Nat.zero_le _) | omega); (focus first | (intro v hv; simp at hv; subst hv; rfl) | (simp [Value.oneCell']; done) | (simp [Value.oneCell', strV]; done) | (simp [Value.cells, Value.oneCell', strV]; done)))
        | (refine W_storeM (A := [_]) hp rfl sz32 rfl rfl rfl rfl ?_ ?_ ?_ rfl ?_; (focus first | exact Nat.le_of_ble_eq_true rfl | omega | (simp; omega)); (focus first | exact .inl (Nat.zero_le _) | omega); (focus first | (intro v hv; simp at hv; subst hv; rfl) | (simp [Value.oneCell']; done) | (simp [Value.oneCell', strV]; done) | (simp [Value.cells, Value.oneCell', strV]; done)))
        | (refine W_storeM (A := [_, _]) hp rfl sz32 rfl rfl rfl rfl ?_ ?_ ?_ rfl ?_; (focus first | exact Nat.le_of_ble_eq_true rfl | omega | (simp; omega)); (focus first | exact .inl (Nat.zero_le _) | omega); (focus first | (intro v hv; simp at hv; subst hv; rfl) | (simp [Value.oneCell']; done) | (simp [Value.oneCell', strV]; done) | (simp [Value.cells, Value.oneCell', strV]; done)))
        | (refine W_storeP hp sz32 rfl rfl rfl rfl (by repeat (first | exact Pick.here | apply Pick.cons | apply Pick.app)) ?_ ?_ ?_ rfl ?_; (focus first | exact Nat.le_of_ble_eq_true rfl | omega | (simp; omega)); (focus first | exact .inl (Nat.zero_le _) | omega); (focus first | (intro v hv; simp at hv; subst hv; rfl) | (simp [Value.oneCell']; done) | (simp [Value.oneCell', strV]; done) | (simp [Value.cells, Value.oneCell', strV]; done)))
      clear hp; intro w hp
      simp only [List.nil_append, List.cons_append, List.append_nil, List.take_succ_cons, List.take_zero, List.drop_succ_cons, List.drop_zero, List.take_nil, List.drop_nil, Nat.zero_add, Nat.add_zero, Nat.reduceAdd, Int.reduceToNat, Int.toNat_natCast, Nat.reduceMul, Nat.mul_one, Nat.zero_mul] at hp
      refine W_nil ?_
      refine N_then_k ?_
      refine K_ret ?_
      refine N_doneL (.inr rfl) rfl (RVs_cons (RV_agg rfl Try.underlying32 rfl sz32 hp (by first | exact List.mem_cons_self | exact .tail _ (.head _) | exact .tail _ (.tail _ (.head _)) | exact .tail _ (.tail _ (.tail _ (.head _))) | exact .tail _ (.tail _ (.tail _ (.tail _ (.head _)))) | exact .tail _ (.tail _ (.tail _ (.tail _ (.tail _ (.head _))))) | exact List.mem_append_right _ (.head _) | exact List.mem_append_right _ (.tail _ (.head _)) | exact List.mem_append_right _ (.tail _ (.tail _ (.head _))) | exact .tail _ (List.mem_append_right _ (.head _)) | exact .tail _ (List.mem_append_right _ (.tail _ (.head _))) | assumption | (repeat (first | exact List.mem_cons_self | apply List.mem_append_right | apply List.mem_cons_of_mem))) (by first | rfl | (simp; done))) (RVs_nil)) rfl ?_
      exact ⟨_, rfl, Gb17 ++ Gf17, hp.drop (by repeat (first | exact List.Sublist.refl _ | exact List.nil_sublist _ | exact List.sublist_append_left _ _ | refine List.Sublist.append (List.Sublist.refl _) ?_ | refine List.Sublist.cons_cons _ ?_ | apply List.sublist_append_of_sublist_right | apply List.Sublist.cons)), ⟨_, _, _, _, rfl, hf17, hb17, rfl⟩⟩)
   · try (exfalso; first | omega | (simp only [Bool.false_eq_true, reduceCtorEq] at hc1; done) | (refine absurd hc1 ?_; with_reducible assumption) | (refine absurd ?_ hc1; with_reducible assumption))
     all_goals (
      refine K_skip ?_
      refine N_then_k ?_
      refine K_seq ?_
      refine K_region ?_
      refine W_move rfl rfl ?_
      refine W_sadd rfl rfl ?_ rfl ?_
      (focus (first | omega | (simp only [List.length_append, List.length_cons, List.length_nil, List.length_drop, List.length_take] at *; omega) | (simp; omega)))
      first
        | (refine W_pcall hp rfl (rfield_spec [87, 87, 87, 45, 65, 117, 116, 104, 101, 110, 116, 105, 99, 97, 116, 101] ([66, 97, 115, 105, 99, 32, 114, 101, 97, 108, 109, 61] ++ Q)) rfl ?_)
        | (refine W_pcall hp rfl (rfield_spec [87, 87, 87, 45, 65, 117, 116, 104, 101, 110, 116, 105, 99, 97, 116, 101] ([66, 97, 115, 105, 99, 32, 114, 101, 97, 108, 109, 61] ++ [34, 34])) rfl ?_)
      clear hp; intro w hp
      refine W_bslice1 hp Try.underlying30 sz45 zv45 rfl  rfl  (fun v0 => v0.cells.toList) rfl rfl rfl ?_
      clear hp; intro b16 w hp
      try simp only [Value.cells, List.toList_toArray, List.cons_append, List.nil_append, List.append_nil] at hp
      first
        | (refine W_bcall hp rfl (rShort_spec w 401 [([87, 87, 87, 45, 65, 117, 116, 104, 101, 110, 116, 105, 99, 97, 116, 101], [66, 97, 115, 105, 99, 32, 114, 101, 97, 108, 109, 61] ++ Q)] _ _ (Rd.own hp List.mem_cons_self (List.prefix_refl _)) (by simp)) rfl ?_)
        | (refine W_bcall hp rfl (rShort_spec w 401 [([87, 87, 87, 45, 65, 117, 116, 104, 101, 110, 116, 105, 99, 97, 116, 101], [66, 97, 115, 105, 99, 32, 114, 101, 97, 108, 109, 61] ++ [34, 34])] _ _ (Rd.own hp List.mem_cons_self (List.prefix_refl _)) (by simp)) rfl ?_)
      clear hp; intro v17 G17 w r17 hp
      obtain ⟨Af17, cf17, Ab17, cb17, Gf17, Gb17, rfl, hf17, hb17, rfl⟩ := RespO.form r17
      first
        | (refine W_storeF (A := []) hp rfl sz32 rfl rfl rfl rfl ?_ ?_ ?_ rfl ?_; (focus first | exact Nat.le_of_ble_eq_true rfl | omega | (simp; omega)); (focus first | exact .inl (Nat.zero_le _) | omega); (focus first | (intro v hv; simp at hv; subst hv; rfl) | (simp [Value.oneCell']; done) | (simp [Value.oneCell', strV]; done) | (simp [Value.cells, Value.oneCell', strV]; done)))
        | (refine W_storeF (A := [_]) hp rfl sz32 rfl rfl rfl rfl ?_ ?_ ?_ rfl ?_; (focus first | exact Nat.le_of_ble_eq_true rfl | omega | (simp; omega)); (focus first | exact .inl (Nat.zero_le _) | omega); (focus first | (intro v hv; simp at hv; subst hv; rfl) | (simp [Value.oneCell']; done) | (simp [Value.oneCell', strV]; done) | (simp [Value.cells, Value.oneCell', strV]; done)))
        | (refine W_storeF (A := [_, _]) hp rfl sz32 rfl rfl rfl rfl ?_ ?_ ?_ rfl ?_; (focus first | exact Nat.le_of_ble_eq_true rfl | omega | (simp; omega)); (focus first | exact .inl (Nat.zero_le _) | omega); (focus first | (intro v hv; simp at hv; subst hv; rfl) | (simp [Value.oneCell']; done) | (simp [Value.oneCell', strV]; done) | (simp [Value.cells, Value.oneCell', strV]; done)))
        | (refine W_storeF (A := [_, _, _]) hp rfl sz32 rfl rfl rfl rfl ?_ ?_ ?_ rfl ?_; (focus first | exact Nat.le_of_ble_eq_true rfl | omega | (simp; omega)); (focus first | exact .inl (Nat.zero_le _) | omega); (focus first | (intro v hv; simp at hv; subst hv; rfl) | (simp [Value.oneCell']; done) | (simp [Value.oneCell', strV]; done) | (simp [Value.cells, Value.oneCell', strV]; done)))
        | (refine W_storeF (A := [_, _, _, _]) hp rfl sz32 rfl rfl rfl rfl ?_ ?_ ?_ rfl ?_; (focus first | exact Nat.le_of_ble_eq_true rfl | omega | (simp; omega)); (focus first | exact .inl (Nat.zero_le _) | omega); (focus first | (intro v hv; simp at hv; subst hv; rfl) | (simp [Value.oneCell']; done) | (simp [Value.oneCell', strV]; done) | (simp [Value.cells, Value.oneCell', strV]; done)))
        | (refine W_storeF (A := [_, _, _, _, _]) hp rfl sz32 rfl rfl rfl rfl ?_ ?_ ?_ rfl ?_; (focus first | exact Nat.le_of_ble_eq_true rfl | omega | (simp; omega)); (focus first | exact .inl (Nat.zero_le _) | omega); (focus first | (intro v hv; simp at hv; subst hv; rfl) | (simp [Value.oneCell']; done) | (simp [Value.oneCell', strV]; done) | (simp [Value.cells, Value.oneCell', strV]; done)))
        | (refine W_storeM (A := []) hp rfl sz32 rfl rfl rfl rfl ?_ ?_ ?_ rfl ?_; (focus first | exact Nat.le_of_ble_eq_true rfl | omega | (simp; omega)); (focus first | exact .inl (Nat.zero_le _) | omega); (focus first | (intro v hv; simp at hv; subst hv; rfl) | (simp [Value.oneCell']; done) | (simp [Value.oneCell', strV]; done) | (simp [Value.cells, Value.oneCell', strV]; done)))
        | (refine W_storeM (A := [_]) hp rfl sz32 rfl rfl rfl rfl ?_ ?_ ?_ rfl ?_; (focus first | exact Nat.le_of_ble_eq_true rfl | omega | (simp; omega)); (focus first | exact .inl (Nat.zero_le _) | omega); (focus first | (intro v hv; simp at hv; subst hv; rfl) | (simp [Value.oneCell']; done) | (simp [Value.oneCell', strV]; done) | (simp [Value.cells, Value.oneCell', strV]; done)))
        | (refine W_storeM (A := [_, _]) hp rfl sz32 rfl rfl rfl rfl ?_ ?_ ?_ rfl ?_; (focus first | exact Nat.le_of_ble_eq_true rfl | omega | (simp; omega)); (focus first | exact .inl (Nat.zero_le _) | omega); (focus first | (intro v hv; simp at hv; subst hv; rfl) | (simp [Value.oneCell']; done) | (simp [Value.oneCell', strV]; done) | (simp [Value.cells, Value.oneCell', strV]; done)))
        | (refine W_storeP hp sz32 rfl rfl rfl rfl (by repeat (first | exact Pick.here | apply Pick.cons | apply Pick.app)) ?_ ?_ ?_ rfl ?_; (focus first | exact Nat.le_of_ble_eq_true rfl | omega | (simp; omega)); (focus first | exact .inl (Nat.zero_le _) | omega); (focus first | (intro v hv; simp at hv; subst hv; rfl) | (simp [Value.oneCell']; done) | (simp [Value.oneCell', strV]; done) | (simp [Value.cells, Value.oneCell', strV]; done)))
      clear hp; intro w hp
      simp only [List.nil_append, List.cons_append, List.append_nil, List.take_succ_cons, List.take_zero, List.drop_succ_cons, List.drop_zero, List.take_nil, List.drop_nil, Nat.zero_add, Nat.add_zero, Nat.reduceAdd, Int.reduceToNat, Int.toNat_natCast, Nat.reduceMul, Nat.mul_one, Nat.zero_mul] at hp
      refine W_nil ?_
      refine N_then_k ?_
      refine K_ret ?_
      refine N_doneL (.inr rfl) rfl (RVs_cons (RV_agg rfl Try.underlying32 rfl sz32 hp (by first | exact List.mem_cons_self | exact .tail _ (.head _) | exact .tail _ (.tail _ (.head _)) | exact .tail _ (.tail _ (.tail _ (.head _))) | exact .tail _ (.tail _ (.tail _ (.tail _ (.head _)))) | exact .tail _ (.tail _ (.tail _ (.tail _ (.tail _ (.head _))))) | exact List.mem_append_right _ (.head _) | exact List.mem_append_right _ (.tail _ (.head _)) | exact List.mem_append_right _ (.tail _ (.tail _ (.head _))) | exact .tail _ (List.mem_append_right _ (.head _)) | exact .tail _ (List.mem_append_right _ (.tail _ (.head _))) | assumption | (repeat (first | exact List.mem_cons_self | apply List.mem_append_right | apply List.mem_cons_of_mem))) (by first | rfl | (simp; done))) (RVs_nil)) rfl ?_
      exact ⟨_, rfl, Gb17 ++ Gf17, hp.drop (by repeat (first | exact List.Sublist.refl _ | exact List.nil_sublist _ | exact List.sublist_append_left _ _ | refine List.Sublist.append (List.Sublist.refl _) ?_ | refine List.Sublist.cons_cons _ ?_ | apply List.sublist_append_of_sublist_right | apply List.Sublist.cons)), ⟨_, _, _, _, rfl, hf17, hb17, rfl⟩⟩))

theorem rWrong_spec (w0 : World) (M : List (List UInt8)) (Al : Option Addr) (cl : Nat) (hrl : Rd w0 (.slice Al M.length cl) M.length (M.map strV)) (hm : M.length ≤ 100000) (hj : (joinB [44, 32] M).length ≤ 100000000) : RetB Try.prog 20 [.slice Al M.length cl] (fun v G => RespO 405 (shortL 405 [([65, 108, 108, 111, 119], joinB [44, 32] M)]) (reasonF 405 ++ [10]) v G) w0 := by
  refine RetB.intro go20 Try.func20 rfl rfl fun hp => ?_
  refine (fun (hk : ∀ w, Hp w0 [] [] w → K _ _ _ _ _ w) => hk w0 hp) fun w hp => ?_
  refine K_seq ?_
  refine K_region ?_
  refine W_alloc hp zv32 rfl rfl ?_
  clear hp; intro b2 w hp
  refine W_nil ?_
  refine N_then_k ?_
  refine K_seq ?_
  refine K_region ?_
  refine W_move rfl rfl ?_
  refine W_acall hp rfl ((rjoin_spec w M Al cl (hrl.keep hp) hm hj)) rfl ?_
  clear hp; intro w hp
  refine W_pcall hp rfl (rfield_spec [65, 108, 108, 111, 119] (joinB [44, 32] M)) rfl ?_
  clear hp; intro w hp
  refine W_bslice1 hp Try.underlying30 sz45 zv45 rfl  rfl  (fun v0 => v0.cells.toList) rfl rfl rfl ?_
  clear hp; intro b6 w hp
  try simp only [Value.cells, List.toList_toArray, List.cons_append, List.nil_append, List.append_nil] at hp
  refine W_bcall hp rfl ((rShort_spec w 405 [([65, 108, 108, 111, 119], joinB [44, 32] M)] _ _ (Rd.own hp List.mem_cons_self (List.prefix_refl _)) (by simp))) rfl ?_
  clear hp; intro v7 G7 w r7 hp
  obtain ⟨Af7, cf7, Ab7, cb7, Gf7, Gb7, rfl, hf7, hb7, rfl⟩ := RespO.form r7
  first
    | (refine W_storeF (A := []) hp rfl sz32 rfl rfl rfl rfl ?_ ?_ ?_ rfl ?_; (focus first | exact Nat.le_of_ble_eq_true rfl | omega | (simp; omega)); (focus first | exact .inl (Nat.zero_le _) | omega); (focus first | (intro v hv; simp at hv; subst hv; rfl) | (simp [Value.oneCell']; done) | (simp [Value.oneCell', strV]; done) | (simp [Value.cells, Value.oneCell', strV]; done)))
    | (refine W_storeF (A := [_]) hp rfl sz32 rfl rfl rfl rfl ?_ ?_ ?_ rfl ?_; (focus first | exact Nat.le_of_ble_eq_true rfl | omega | (simp; omega)); (focus first | exact .inl (Nat.zero_le _) | omega); (focus first | (intro v hv; simp at hv; subst hv; rfl) | (simp [Value.oneCell']; done) | (simp [Value.oneCell', strV]; done) | (simp [Value.cells, Value.oneCell', strV]; done)))
    | (refine W_storeF (A := [_, _]) hp rfl sz32 rfl rfl rfl rfl ?_ ?_ ?_ rfl ?_; (focus first | exact Nat.le_of_ble_eq_true rfl | omega | (simp; omega)); (focus first | exact .inl (Nat.zero_le _) | omega); (focus first | (intro v hv; simp at hv; subst hv; rfl) | (simp [Value.oneCell']; done) | (simp [Value.oneCell', strV]; done) | (simp [Value.cells, Value.oneCell', strV]; done)))
    | (refine W_storeF (A := [_, _, _]) hp rfl sz32 rfl rfl rfl rfl ?_ ?_ ?_ rfl ?_; (focus first | exact Nat.le_of_ble_eq_true rfl | omega | (simp; omega)); (focus first | exact .inl (Nat.zero_le _) | omega); (focus first | (intro v hv; simp at hv; subst hv; rfl) | (simp [Value.oneCell']; done) | (simp [Value.oneCell', strV]; done) | (simp [Value.cells, Value.oneCell', strV]; done)))
    | (refine W_storeF (A := [_, _, _, _]) hp rfl sz32 rfl rfl rfl rfl ?_ ?_ ?_ rfl ?_; (focus first | exact Nat.le_of_ble_eq_true rfl | omega | (simp; omega)); (focus first | exact .inl (Nat.zero_le _) | omega); (focus first | (intro v hv; simp at hv; subst hv; rfl) | (simp [Value.oneCell']; done) | (simp [Value.oneCell', strV]; done) | (simp [Value.cells, Value.oneCell', strV]; done)))
    | (refine W_storeF (A := [_, _, _, _, _]) hp rfl sz32 rfl rfl rfl rfl ?_ ?_ ?_ rfl ?_; (focus first | exact Nat.le_of_ble_eq_true rfl | omega | (simp; omega)); (focus first | exact .inl (Nat.zero_le _) | omega); (focus first | (intro v hv; simp at hv; subst hv; rfl) | (simp [Value.oneCell']; done) | (simp [Value.oneCell', strV]; done) | (simp [Value.cells, Value.oneCell', strV]; done)))
    | (refine W_storeM (A := []) hp rfl sz32 rfl rfl rfl rfl ?_ ?_ ?_ rfl ?_; (focus first | exact Nat.le_of_ble_eq_true rfl | omega | (simp; omega)); (focus first | exact .inl (Nat.zero_le _) | omega); (focus first | (intro v hv; simp at hv; subst hv; rfl) | (simp [Value.oneCell']; done) | (simp [Value.oneCell', strV]; done) | (simp [Value.cells, Value.oneCell', strV]; done)))
    | (refine W_storeM (A := [_]) hp rfl sz32 rfl rfl rfl rfl ?_ ?_ ?_ rfl ?_; (focus first | exact Nat.le_of_ble_eq_true rfl | omega | (simp; omega)); (focus first | exact .inl (Nat.zero_le _) | omega); (focus first | (intro v hv; simp at hv; subst hv; rfl) | (simp [Value.oneCell']; done) | (simp [Value.oneCell', strV]; done) | (simp [Value.cells, Value.oneCell', strV]; done)))
    | (refine W_storeM (A := [_, _]) hp rfl sz32 rfl rfl rfl rfl ?_ ?_ ?_ rfl ?_; (focus first | exact Nat.le_of_ble_eq_true rfl | omega | (simp; omega)); (focus first | exact .inl (Nat.zero_le _) | omega); (focus first | (intro v hv; simp at hv; subst hv; rfl) | (simp [Value.oneCell']; done) | (simp [Value.oneCell', strV]; done) | (simp [Value.cells, Value.oneCell', strV]; done)))
    | (refine W_storeP hp sz32 rfl rfl rfl rfl (by repeat (first | exact Pick.here | apply Pick.cons | apply Pick.app)) ?_ ?_ ?_ rfl ?_; (focus first | exact Nat.le_of_ble_eq_true rfl | omega | (simp; omega)); (focus first | exact .inl (Nat.zero_le _) | omega); (focus first | (intro v hv; simp at hv; subst hv; rfl) | (simp [Value.oneCell']; done) | (simp [Value.oneCell', strV]; done) | (simp [Value.cells, Value.oneCell', strV]; done)))
  clear hp; intro w hp
  simp only [List.nil_append, List.cons_append, List.append_nil, List.take_succ_cons, List.take_zero, List.drop_succ_cons, List.drop_zero, List.take_nil, List.drop_nil, Nat.zero_add, Nat.add_zero, Nat.reduceAdd, Int.reduceToNat, Int.toNat_natCast, Nat.reduceMul, Nat.mul_one, Nat.zero_mul] at hp
  refine W_nil ?_
  refine N_then_k ?_
  refine K_ret ?_
  refine N_doneL (.inr rfl) rfl (RVs_cons (RV_agg rfl Try.underlying32 rfl sz32 hp (by first | exact List.mem_cons_self | exact .tail _ (.head _) | exact .tail _ (.tail _ (.head _)) | exact .tail _ (.tail _ (.tail _ (.head _))) | exact .tail _ (.tail _ (.tail _ (.tail _ (.head _)))) | exact .tail _ (.tail _ (.tail _ (.tail _ (.tail _ (.head _))))) | exact List.mem_append_right _ (.head _) | exact List.mem_append_right _ (.tail _ (.head _)) | exact List.mem_append_right _ (.tail _ (.tail _ (.head _))) | exact .tail _ (List.mem_append_right _ (.head _)) | exact .tail _ (List.mem_append_right _ (.tail _ (.head _))) | assumption | (repeat (first | exact List.mem_cons_self | apply List.mem_append_right | apply List.mem_cons_of_mem))) (by first | rfl | (simp; done))) (RVs_nil)) rfl ?_
  exact ⟨_, rfl, Gb7 ++ Gf7, hp.drop (by repeat (first | exact List.Sublist.refl _ | exact List.nil_sublist _ | exact List.sublist_append_left _ _ | refine List.Sublist.append (List.Sublist.refl _) ?_ | refine List.Sublist.cons_cons _ ?_ | apply List.sublist_append_of_sublist_right | apply List.Sublist.cons)), ⟨_, _, _, _, rfl, hf7, hb7, rfl⟩⟩

theorem rOptions_spec (w0 : World) (M : List (List UInt8)) (Al : Option Addr) (cl : Nat) (hrl : Rd w0 (.slice Al M.length cl) M.length (M.map strV)) (hm : M.length ≤ 100000) (hj : (joinB [44, 32] M).length ≤ 100000000) : RetB Try.prog 22 [.slice Al M.length cl] (fun v G => RespR 200 ([([65, 108, 108, 111, 119], joinB [44, 32] M)] ++ [clF []]) (.slice none 0 0) v G) w0 := by
  have h0 : clF [] = ([67, 111, 110, 116, 101, 110, 116, 45, 76, 101, 110, 103, 116, 104], [48]) := by unfold clF; rw [show ([] : List UInt8).length = 0 from rfl, textN_lt (by decide)]; rfl
  rw [h0]
  refine RetB.intro go22 Try.func22 rfl rfl fun hp => ?_
  refine (fun (hk : ∀ w, Hp w0 [] [] w → K _ _ _ _ _ w) => hk w0 hp) fun w hp => ?_
  refine K_seq ?_
  refine K_region ?_
  refine W_alloc hp zv32 rfl rfl ?_
  clear hp; intro b2 w hp
  refine W_nil ?_
  refine N_then_k ?_
  refine K_seq ?_
  refine K_region ?_
  refine W_move rfl rfl ?_
  refine W_acall hp rfl ((rjoin_spec w M Al cl (hrl.keep hp) hm hj)) rfl ?_
  clear hp; intro w hp
  refine W_pcall hp rfl (rfield_spec [65, 108, 108, 111, 119] (joinB [44, 32] M)) rfl ?_
  clear hp; intro w hp
  refine W_pcall hp rfl (rfield_spec [67, 111, 110, 116, 101, 110, 116, 45, 76, 101, 110, 103, 116, 104] [48]) rfl ?_
  clear hp; intro w hp
  refine W_bslice2 hp Try.underlying30 sz45 zv45 rfl rfl  rfl rfl  (fun v0 v1 => v0.cells.toList ++ v1.cells.toList) rfl rfl rfl ?_
  clear hp; intro b7 w hp
  try simp only [Value.cells, List.toList_toArray, List.cons_append, List.nil_append, List.append_nil] at hp
  refine W_build2 rfl rfl  (fun v0 v1 => [v0, v1, (.slice none 0 0)]) (by kernel_rfl) rfl ?_
  first
    | (refine W_storeF (A := []) hp rfl sz32 rfl rfl rfl rfl ?_ ?_ ?_ rfl ?_; (focus first | exact Nat.le_of_ble_eq_true rfl | omega | (simp; omega)); (focus first | exact .inl (Nat.zero_le _) | omega); (focus first | (intro v hv; simp at hv; subst hv; rfl) | (simp [Value.oneCell']; done) | (simp [Value.oneCell', strV]; done) | (simp [Value.cells, Value.oneCell', strV]; done)))
    | (refine W_storeF (A := [_]) hp rfl sz32 rfl rfl rfl rfl ?_ ?_ ?_ rfl ?_; (focus first | exact Nat.le_of_ble_eq_true rfl | omega | (simp; omega)); (focus first | exact .inl (Nat.zero_le _) | omega); (focus first | (intro v hv; simp at hv; subst hv; rfl) | (simp [Value.oneCell']; done) | (simp [Value.oneCell', strV]; done) | (simp [Value.cells, Value.oneCell', strV]; done)))
    | (refine W_storeF (A := [_, _]) hp rfl sz32 rfl rfl rfl rfl ?_ ?_ ?_ rfl ?_; (focus first | exact Nat.le_of_ble_eq_true rfl | omega | (simp; omega)); (focus first | exact .inl (Nat.zero_le _) | omega); (focus first | (intro v hv; simp at hv; subst hv; rfl) | (simp [Value.oneCell']; done) | (simp [Value.oneCell', strV]; done) | (simp [Value.cells, Value.oneCell', strV]; done)))
    | (refine W_storeF (A := [_, _, _]) hp rfl sz32 rfl rfl rfl rfl ?_ ?_ ?_ rfl ?_; (focus first | exact Nat.le_of_ble_eq_true rfl | omega | (simp; omega)); (focus first | exact .inl (Nat.zero_le _) | omega); (focus first | (intro v hv; simp at hv; subst hv; rfl) | (simp [Value.oneCell']; done) | (simp [Value.oneCell', strV]; done) | (simp [Value.cells, Value.oneCell', strV]; done)))
    | (refine W_storeF (A := [_, _, _, _]) hp rfl sz32 rfl rfl rfl rfl ?_ ?_ ?_ rfl ?_; (focus first | exact Nat.le_of_ble_eq_true rfl | omega | (simp; omega)); (focus first | exact .inl (Nat.zero_le _) | omega); (focus first | (intro v hv; simp at hv; subst hv; rfl) | (simp [Value.oneCell']; done) | (simp [Value.oneCell', strV]; done) | (simp [Value.cells, Value.oneCell', strV]; done)))
    | (refine W_storeF (A := [_, _, _, _, _]) hp rfl sz32 rfl rfl rfl rfl ?_ ?_ ?_ rfl ?_; (focus first | exact Nat.le_of_ble_eq_true rfl | omega | (simp; omega)); (focus first | exact .inl (Nat.zero_le _) | omega); (focus first | (intro v hv; simp at hv; subst hv; rfl) | (simp [Value.oneCell']; done) | (simp [Value.oneCell', strV]; done) | (simp [Value.cells, Value.oneCell', strV]; done)))
    | (refine W_storeM (A := []) hp rfl sz32 rfl rfl rfl rfl ?_ ?_ ?_ rfl ?_; (focus first | exact Nat.le_of_ble_eq_true rfl | omega | (simp; omega)); (focus first | exact .inl (Nat.zero_le _) | omega); (focus first | (intro v hv; simp at hv; subst hv; rfl) | (simp [Value.oneCell']; done) | (simp [Value.oneCell', strV]; done) | (simp [Value.cells, Value.oneCell', strV]; done)))
    | (refine W_storeM (A := [_]) hp rfl sz32 rfl rfl rfl rfl ?_ ?_ ?_ rfl ?_; (focus first | exact Nat.le_of_ble_eq_true rfl | omega | (simp; omega)); (focus first | exact .inl (Nat.zero_le _) | omega); (focus first | (intro v hv; simp at hv; subst hv; rfl) | (simp [Value.oneCell']; done) | (simp [Value.oneCell', strV]; done) | (simp [Value.cells, Value.oneCell', strV]; done)))
    | (refine W_storeM (A := [_, _]) hp rfl sz32 rfl rfl rfl rfl ?_ ?_ ?_ rfl ?_; (focus first | exact Nat.le_of_ble_eq_true rfl | omega | (simp; omega)); (focus first | exact .inl (Nat.zero_le _) | omega); (focus first | (intro v hv; simp at hv; subst hv; rfl) | (simp [Value.oneCell']; done) | (simp [Value.oneCell', strV]; done) | (simp [Value.cells, Value.oneCell', strV]; done)))
    | (refine W_storeP hp sz32 rfl rfl rfl rfl (by repeat (first | exact Pick.here | apply Pick.cons | apply Pick.app)) ?_ ?_ ?_ rfl ?_; (focus first | exact Nat.le_of_ble_eq_true rfl | omega | (simp; omega)); (focus first | exact .inl (Nat.zero_le _) | omega); (focus first | (intro v hv; simp at hv; subst hv; rfl) | (simp [Value.oneCell']; done) | (simp [Value.oneCell', strV]; done) | (simp [Value.cells, Value.oneCell', strV]; done)))
  clear hp; intro w hp
  simp only [List.nil_append, List.cons_append, List.append_nil, List.take_succ_cons, List.take_zero, List.drop_succ_cons, List.drop_zero, List.take_nil, List.drop_nil, Nat.zero_add, Nat.add_zero, Nat.reduceAdd, Int.reduceToNat, Int.toNat_natCast, Nat.reduceMul, Nat.mul_one, Nat.zero_mul] at hp
  refine W_nil ?_
  refine N_then_k ?_
  refine K_ret ?_
  refine N_doneL (.inr rfl) rfl (RVs_cons (RV_agg rfl Try.underlying32 rfl sz32 hp (by first | exact List.mem_cons_self | exact .tail _ (.head _) | exact .tail _ (.tail _ (.head _)) | exact .tail _ (.tail _ (.tail _ (.head _))) | exact .tail _ (.tail _ (.tail _ (.tail _ (.head _)))) | exact .tail _ (.tail _ (.tail _ (.tail _ (.tail _ (.head _))))) | exact List.mem_append_right _ (.head _) | exact List.mem_append_right _ (.tail _ (.head _)) | exact List.mem_append_right _ (.tail _ (.tail _ (.head _))) | exact .tail _ (List.mem_append_right _ (.head _)) | exact .tail _ (List.mem_append_right _ (.tail _ (.head _))) | assumption | (repeat (first | exact List.mem_cons_self | apply List.mem_append_right | apply List.mem_cons_of_mem))) (by first | rfl | (simp; done))) (RVs_nil)) rfl ?_
  exact ⟨_, rfl, [_], hp.drop (by repeat (first | exact List.Sublist.refl _ | exact List.nil_sublist _ | exact List.sublist_append_left _ _ | refine List.Sublist.append (List.Sublist.refl _) ?_ | refine List.Sublist.cons_cons _ ?_ | apply List.sublist_append_of_sublist_right | apply List.Sublist.cons)), ⟨_, rfl, OS.lit (k := 2) rfl (by decide)⟩⟩

end Go.Proofs.Ytnokecddkbkhaaa
