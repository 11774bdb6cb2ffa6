/-
  Laws of package tree, walked: TreeFinds.
-/
import Derived.Test.YticinfoljhlnbaaGreatDoorTreX
import Derived.Test.YticinfoljhlnbaaGreatDoorTreZ
namespace Go.Proofs.YticinfoljhlnbaaGreatDoor
open Go.Sx Go.RowKit
set_option linter.unusedVariables false
set_option linter.unusedSimpArgs false
set_option maxRecDepth 100000

set_option maxHeartbeats 3000000 in
theorem TreeFinds_walk (w0 : World) (hg : ErrT w0) (X : List FS) (A : Option Addr) (c : Nat) (hrX : Rd w0 (.slice A X.length c) X.length (filesC X)) (hok : ∀ x ∈ X, FSok w0 x) (hnX : X.length ≤ 9223372036854775807) (hmX : ∀ x ∈ X, x.f.path.length ≤ 9223372036854775807) (p : List (List UInt8)) (Ap : Option Addr) (cp : Nat) (hrp : Rd w0 (.slice Ap p.length cp) p.length (p.map strV)) (hnp : p.length ≤ 9223372036854775807) (hcp : p.length ≤ cp) : PureAt Tryz.prog 4 [.slice A X.length c, .slice Ap p.length cp] (.bool true) w0 := by
  rcases Bool.eq_false_or_eq_true (fewT (filesF X) && decide (checkL (filesF X) < 0)) with hR | hR
  all_goals try (obtain ⟨hfT, hc0⟩ := right_two hR; have hX30 : X.length ≤ 30 := few_len hfT; have hfl := few_files hfT)
  all_goals rcases Bool.eq_false_or_eq_true (fewP p) with hfp | hfp
  all_goals try (have hLp : p.length ≤ 30 := (fewP_of hfp).1)
  all_goals (rcases get_atX hrX p with ⟨i, x, bb, oo, hgi, hx, hil, rfl⟩ | hgi)
  all_goals (
   refine PureAt.intro go4 Tryz.func4 rfl rfl fun hp => ?_
   refine (fun (hk : ∀ w, Hp w0 [] [] w → K _ _ _ _ _ w) => hk w0 hp) fun w hp => ?_
   refine K_seq ?_
   refine K_region ?_
   refine W_assign rfl rfl ?_
   refine W_nil ?_
   refine N_then_k ?_
   refine K_seq ?_
   refine K_seq ?_
   refine K_region ?_
   refine W_acall hp rfl ((awake_spec w (hg.keep hp))) rfl ?_
   clear hp; intro w hp
   first
     | (refine W_not_t rfl rfl ?_)
     | (refine W_not_f rfl rfl ?_)
     | (refine W_not rfl rfl ?_)
   refine W_move rfl rfl ?_
   first
     | refine W_guard_lit_t rfl ?_
     | refine W_guard_lit_f rfl ?_
     | refine W_guard_lit_u rfl ?_
     | refine W_guard_split_d rfl rfl rfl (fun hg1 => ?_) (fun hg1 => ?_)
     | refine W_guard_split_n rfl rfl rfl (fun hg1 => ?_) (fun hg1 => ?_)
     | refine W_guard_split_nb rfl rfl rfl (fun hg1 => ?_) (fun hg1 => ?_)
     | refine W_guard_split rfl rfl rfl (fun hg1 => ?_) (fun hg1 => ?_)
   all_goals try (exfalso; first | omega | (simp only [Bool.false_eq_true, reduceCtorEq] at hg1; done) | (refine absurd hg1 ?_; with_reducible assumption) | (refine absurd ?_ hg1; with_reducible assumption))
   all_goals (
    first
      | (iterate 3 refine W_guard_no rfl rfl rfl ?_)
      | (iterate 3 refine W_guard_un rfl rfl ?_)
      | (refine W_guard_yes rfl ?_
         refine W_move rfl rfl ?_
         refine W_guard_yes rfl ?_
         refine W_acall hp rfl (((rright_spec w X _ c (hrX.keep hp) (fun y hy => (hok y hy).keep hp) hnX hmX).eq (congrArg Value.bool hR))) rfl ?_
         clear hp; intro w hp
         refine W_guard_yes rfl ?_
         first
           | (refine W_not_t rfl rfl ?_)
           | (refine W_not_f rfl rfl ?_)
           | (refine W_not rfl rfl ?_))
    first
      | (refine W_pick_t rfl rfl rfl ?_)
      | (refine W_pick_f rfl rfl rfl ?_)
      | (refine W_pick_b rfl rfl rfl rfl ?_)
    refine W_move rfl rfl ?_
    first
      | refine W_guard_lit_t rfl ?_
      | refine W_guard_lit_f rfl ?_
      | refine W_guard_lit_u rfl ?_
      | refine W_guard_split_d rfl rfl rfl (fun hg2 => ?_) (fun hg2 => ?_)
      | refine W_guard_split_n rfl rfl rfl (fun hg2 => ?_) (fun hg2 => ?_)
      | refine W_guard_split_nb rfl rfl rfl (fun hg2 => ?_) (fun hg2 => ?_)
      | refine W_guard_split rfl rfl rfl (fun hg2 => ?_) (fun hg2 => ?_)
    all_goals try (exfalso; first | omega | (simp only [Bool.false_eq_true, reduceCtorEq] at hg2; done) | (refine absurd hg2 ?_; with_reducible assumption) | (refine absurd ?_ hg2; with_reducible assumption))
    all_goals (
     first
       | (iterate 3 refine W_guard_no rfl rfl rfl ?_)
       | (iterate 3 refine W_guard_un rfl rfl ?_)
       | (refine W_guard_yes rfl ?_
          refine W_move rfl rfl ?_
          refine W_guard_yes rfl ?_
          refine W_acall hp rfl (((few_spec w p Ap cp (hrp.keep hp) hnp).eq (congrArg Value.bool hfp))) rfl ?_
          clear hp; intro w hp
          refine W_guard_yes rfl ?_
          first
            | (refine W_not_t rfl rfl ?_)
            | (refine W_not_f rfl rfl ?_)
            | (refine W_not rfl rfl ?_))
     first
       | (refine W_pick_t rfl rfl rfl ?_)
       | (refine W_pick_f rfl rfl rfl ?_)
       | (refine W_pick_b rfl rfl rfl rfl ?_)
     refine W_nil ?_
     refine N_then_k ?_
     first
       | refine K_cond_d rfl (fun hc3 => ?_) (fun hc3 => ?_)
       | refine K_cond_n rfl (fun hc3 => ?_) (fun hc3 => ?_)
       | refine K_cond_nb rfl (fun hc3 => ?_) (fun hc3 => ?_)
       | refine K_cond_t rfl (fun hc3 => ?_) (fun hc3 => ?_)
     · try (exfalso; first | omega | (simp only [Bool.false_eq_true, reduceCtorEq] at hc3; done) | (refine absurd hc3 ?_; with_reducible assumption) | (refine absurd ?_ hc3; with_reducible assumption))
       all_goals (
 refine K_seq ?_
 refine K_region ?_
 refine W_acall hp rfl ((awake_spec w (hg.keep hp))) rfl ?_
 clear hp; intro w hp
 refine W_assign rfl rfl ?_
 refine W_nil ?_
 refine N_then_k ?_
 refine K_ret ?_
 refine N_then_ret ?_
 refine N_done1 (.inr rfl) rfl rfl ?_
 first
   | exact ⟨_, rfl, rfl, hp.nil⟩
   | (refine ⟨_, rfl, congrArg Value.bool ?_, hp.nil⟩; simp [*]; done))
     · try (exfalso; first | omega | (simp only [Bool.false_eq_true, reduceCtorEq] at hc3; done) | (refine absurd hc3 ?_; with_reducible assumption) | (refine absurd ?_ hc3; with_reducible assumption))
       all_goals (
 refine K_skip ?_
 refine N_then_k ?_
 refine K_seq ?_
 refine K_region ?_
 refine W_move rfl rfl ?_
 refine W_bcall hp rfl ((new_spec w X _ c (hrX.keep hp) (fun y hy => (hok y hy).keep hp) (by omega) hfT)) rfl ?_
 clear hp; intro v25 G25 w r25 hp
 obtain ⟨hN1, hN2⟩ := r25
 obtain ⟨t, rfl, hok2, rfl⟩ := hN1 hc0
 clear hN1 hN2
 refine W_move rfl rfl ?_
 refine W_extract rfl rfl rfl ?_
 refine W_extract rfl rfl rfl ?_
 refine W_assign rfl rfl ?_
 refine W_assign rfl rfl ?_
 refine W_nil ?_
 refine N_then_k ?_
 refine K_seq ?_
 refine K_seq ?_
 refine K_region ?_
 refine W_move rfl rfl ?_
 first
   | (refine W_val rfl (inb_of rfl) (R_bin (a := .pointer none) (v := .bool true) rfl rfl (by kernel_rfl)) ?_)
   | (refine W_val rfl (inb_of rfl) (R_bin (v := .bool false) rfl rfl (by kernel_rfl)) ?_)
 refine W_nil ?_
 refine N_then_k ?_
 first
   | refine K_cond_d rfl (fun hc4 => ?_) (fun hc4 => ?_)
   | refine K_cond_n rfl (fun hc4 => ?_) (fun hc4 => ?_)
   | refine K_cond_nb rfl (fun hc4 => ?_) (fun hc4 => ?_)
   | refine K_cond_t rfl (fun hc4 => ?_) (fun hc4 => ?_)
 · try (exfalso; first | omega | (simp only [Bool.false_eq_true, reduceCtorEq] at hc4; done) | (refine absurd hc4 ?_; with_reducible assumption) | (refine absurd ?_ hc4; with_reducible assumption))
   all_goals (
 refine K_seq ?_
 refine K_region ?_
 refine W_assign rfl rfl ?_
 refine W_nil ?_
 refine N_then_k ?_
 refine K_ret ?_
 refine N_then_ret ?_
 refine N_done1 (.inr rfl) rfl rfl ?_
 first
   | exact ⟨_, rfl, rfl, hp.nil⟩
   | (refine ⟨_, rfl, congrArg Value.bool ?_, hp.nil⟩; simp [*]; done))
 · try (exfalso; first | omega | (simp only [Bool.false_eq_true, reduceCtorEq] at hc4; done) | (refine absurd hc4 ?_; with_reducible assumption) | (refine absurd ?_ hc4; with_reducible assumption))
   all_goals (
 refine K_skip ?_
 refine N_then_k ?_
 refine K_seq ?_
 refine K_region ?_
 refine W_move rfl rfl ?_
 refine W_move rfl rfl ?_
 refine W_bcall hp rfl ((get_spec w t hok2.wf (hpHolds hp (H := t.heap) (fun y hy => by simp [hy])) p Ap cp (hrp.keep hp) (by omega) (tr_fit hok2 hfT))) rfl ?_
 clear hp; intro v33 G33 w r33 hp
 obtain ⟨y33, rfl, hy33, hyo33⟩ := r33
 first
   | (have hq33 := tr_got hok2 hc0 hgi (filesF_at hx))
   | (have hq33 := tr_not hok2 hc0 hgi)
 obtain ⟨hs33, hv33⟩ := hq33
 rw [hv33] at hy33
 rw [hs33]
 clear hs33 hv33
 refine W_move rfl rfl ?_
 refine W_extract rfl rfl rfl ?_
 refine W_extract rfl rfl rfl ?_
 refine W_alloc hp zv39 rfl rfl ?_
 clear hp; intro b7 w hp
 refine W_storeF (A := []) (cs := y33.cells) hp rfl sz39 rfl rfl rfl rfl ?_ ?_ (cells_one y33) rfl ?_
 · exact Nat.le_refl _
 · exact .inl (Nat.zero_le _)
 clear hp; intro w hp
 simp only [List.nil_append, List.cons_append] at hp
 refine W_assign rfl rfl ?_
 refine W_nil ?_
 refine N_then_k ?_
 refine K_seq ?_
 refine K_region ?_
 refine W_move rfl rfl ?_
 refine W_move rfl rfl ?_
 refine W_acall hp rfl (((rget_spec w X _ c (hrX.keep hp) (fun y hy => (hok y hy).keep hp) (by omega) hfT p Ap cp (hrp.keep hp) (by omega) hcp).eq (congrArg (Value.int .i64) hgi))) rfl ?_
 clear hp; intro w hp
 refine W_assign rfl rfl ?_
 refine W_nil ?_
 refine N_then_k ?_
 refine K_seq ?_
 refine K_seq ?_
 refine K_held (Hp w0 [] [(b7, .cells y33.cells.toArray 39)]) (.first 0 (.first 1 (.first 2 (.first 3 (.first 4 (.first 5 (.first 6 (.first 7 (.first 8 (.first 9 (.first 10 (.first 11 (.only 12 (.first 13 (.first 14 (.first 15 (.first 16 (.first 17 (.first 18 (.first 19 (.first 20 (.first 21 (.only 22 (.first 23 (.first 24 (.first 25 .done)))))))))))))))))))))))))) hm hp (by kernel_rfl) (heldL_start (by kernel_rfl)) (.first rfl (.first rfl (.first rfl (.first rfl (.first rfl (.first rfl (.first rfl (.first rfl (.first rfl (.first rfl (.first rfl (.first rfl (.only rfl (.first rfl (.first rfl (.first rfl (.first rfl (.first rfl (.first rfl (.first rfl (.first rfl (.first rfl (.only rfl (.first rfl (.first rfl (.first rfl .done)))))))))))))))))))))))))) ?_
 clear hp; intro w hp
 refine Wh_val (by first | exact hp | exact trivial | (refine hp.drop ?_; repeat (first | exact List.Sublist.refl _ | exact List.nil_sublist _ | refine List.Sublist.cons_cons _ ?_ | apply List.sublist_append_of_sublist_right | apply List.Sublist.cons))) (fun w hp => R_move rfl) rfl ?_
 refine Wh_val (by first | exact hp | exact trivial | (refine hp.drop ?_; repeat (first | exact List.Sublist.refl _ | exact List.nil_sublist _ | refine List.Sublist.cons_cons _ ?_ | apply List.sublist_append_of_sublist_right | apply List.Sublist.cons))) (fun w hp => R_move rfl) rfl ?_
 first
   | (refine Wh_val (by first | exact hp | exact trivial | (refine hp.drop ?_; repeat (first | exact List.Sublist.refl _ | exact List.nil_sublist _ | refine List.Sublist.cons_cons _ ?_ | apply List.sublist_append_of_sublist_right | apply List.Sublist.cons))) (fun w hp => R_geq_t rfl rfl ?_) rfl ?_; (focus (omega)))
   | (refine Wh_val (by first | exact hp | exact trivial | (refine hp.drop ?_; repeat (first | exact List.Sublist.refl _ | exact List.nil_sublist _ | refine List.Sublist.cons_cons _ ?_ | apply List.sublist_append_of_sublist_right | apply List.Sublist.cons))) (fun w hp => R_geq_f rfl rfl ?_) rfl ?_; (focus (omega)))
   | (refine Wh_val (by first | exact hp | exact trivial | (refine hp.drop ?_; repeat (first | exact List.Sublist.refl _ | exact List.nil_sublist _ | refine List.Sublist.cons_cons _ ?_ | apply List.sublist_append_of_sublist_right | apply List.Sublist.cons))) (fun w hp => R_geq rfl rfl) rfl ?_)
 first
   | (refine Wh_val (by first | exact hp | exact trivial | (refine hp.drop ?_; repeat (first | exact List.Sublist.refl _ | exact List.nil_sublist _ | refine List.Sublist.cons_cons _ ?_ | apply List.sublist_append_of_sublist_right | apply List.Sublist.cons))) (fun w hp => R_bneq_f Tryz.underlying4 rfl rfl rfl) rfl ?_)
   | (refine Wh_val (by first | exact hp | exact trivial | (refine hp.drop ?_; repeat (first | exact List.Sublist.refl _ | exact List.nil_sublist _ | refine List.Sublist.cons_cons _ ?_ | apply List.sublist_append_of_sublist_right | apply List.Sublist.cons))) (fun w hp => R_bneq_t Tryz.underlying4 rfl rfl rfl) rfl ?_)
   | (refine Wh_val (by first | exact hp | exact trivial | (refine hp.drop ?_; repeat (first | exact List.Sublist.refl _ | exact List.nil_sublist _ | refine List.Sublist.cons_cons _ ?_ | apply List.sublist_append_of_sublist_right | apply List.Sublist.cons))) (fun w hp => R_bneq Tryz.underlying4 rfl rfl) rfl ?_)
 refine Wh_val (by first | exact hp | exact trivial | (refine hp.drop ?_; repeat (first | exact List.Sublist.refl _ | exact List.nil_sublist _ | refine List.Sublist.cons_cons _ ?_ | apply List.sublist_append_of_sublist_right | apply List.Sublist.cons))) (fun w hp => R_move rfl) rfl ?_
 first
   | refine Wh_guard_lit_t rfl ?_
   | refine Wh_guard_lit_f rfl ?_
   | refine Wh_guard_lit_u rfl ?_
   | refine Wh_guard_split_d rfl rfl rfl (fun hg5 => ?_) (fun hg5 => ?_)
   | refine Wh_guard_split_n rfl rfl rfl (fun hg5 => ?_) (fun hg5 => ?_)
   | refine Wh_guard_split_nb rfl rfl rfl (fun hg5 => ?_) (fun hg5 => ?_)
   | refine Wh_guard_split rfl rfl rfl (fun hg5 => ?_) (fun hg5 => ?_)
 all_goals try (exfalso; first | omega | (simp only [Bool.false_eq_true, reduceCtorEq] at hg5; done) | (refine absurd hg5 ?_; with_reducible assumption) | (refine absurd ?_ hg5; with_reducible assumption))
 all_goals (
  first
    | (refine Wh_guard_no (by first | exact hp | exact trivial | (refine hp.drop ?_; repeat (first | exact List.Sublist.refl _ | exact List.nil_sublist _ | refine List.Sublist.cons_cons _ ?_ | apply List.sublist_append_of_sublist_right | apply List.Sublist.cons))) rfl rfl rfl ?_)
    | (refine Wh_guard_un (by first | exact hp | exact trivial | (refine hp.drop ?_; repeat (first | exact List.Sublist.refl _ | exact List.nil_sublist _ | refine List.Sublist.cons_cons _ ?_ | apply List.sublist_append_of_sublist_right | apply List.Sublist.cons))) rfl rfl ?_)
    | (refine Wh_guard_yes rfl ?_
       refine Wh_val (by first | exact hp | exact trivial | (refine hp.drop ?_; repeat (first | exact List.Sublist.refl _ | exact List.nil_sublist _ | refine List.Sublist.cons_cons _ ?_ | apply List.sublist_append_of_sublist_right | apply List.Sublist.cons))) (fun w hp => R_move rfl) rfl ?_)
  first
    | (refine Wh_guard_no (by first | exact hp | exact trivial | (refine hp.drop ?_; repeat (first | exact List.Sublist.refl _ | exact List.nil_sublist _ | refine List.Sublist.cons_cons _ ?_ | apply List.sublist_append_of_sublist_right | apply List.Sublist.cons))) rfl rfl rfl ?_)
    | (refine Wh_guard_un (by first | exact hp | exact trivial | (refine hp.drop ?_; repeat (first | exact List.Sublist.refl _ | exact List.nil_sublist _ | refine List.Sublist.cons_cons _ ?_ | apply List.sublist_append_of_sublist_right | apply List.Sublist.cons))) rfl rfl ?_)
    | (refine Wh_guard_yes rfl ?_
       refine Wh_val (by first | exact hp | exact trivial | (refine hp.drop ?_; repeat (first | exact List.Sublist.refl _ | exact List.nil_sublist _ | refine List.Sublist.cons_cons _ ?_ | apply List.sublist_append_of_sublist_right | apply List.Sublist.cons))) (fun w hp => R_move rfl) rfl ?_)
  first
    | refine Wh_guard_lit_t rfl ?_
    | refine Wh_guard_lit_f rfl ?_
    | refine Wh_guard_lit_u rfl ?_
    | refine Wh_guard_split_d rfl rfl rfl (fun hg6 => ?_) (fun hg6 => ?_)
    | refine Wh_guard_split_n rfl rfl rfl (fun hg6 => ?_) (fun hg6 => ?_)
    | refine Wh_guard_split_nb rfl rfl rfl (fun hg6 => ?_) (fun hg6 => ?_)
    | refine Wh_guard_split rfl rfl rfl (fun hg6 => ?_) (fun hg6 => ?_)
  all_goals try (exfalso; first | omega | (simp only [Bool.false_eq_true, reduceCtorEq] at hg6; done) | (refine absurd hg6 ?_; with_reducible assumption) | (refine absurd ?_ hg6; with_reducible assumption))
  all_goals (
   first
     | (refine Wh_guard_no (by first | exact hp | exact trivial | (refine hp.drop ?_; repeat (first | exact List.Sublist.refl _ | exact List.nil_sublist _ | refine List.Sublist.cons_cons _ ?_ | apply List.sublist_append_of_sublist_right | apply List.Sublist.cons))) rfl rfl rfl ?_)
     | (refine Wh_guard_un (by first | exact hp | exact trivial | (refine hp.drop ?_; repeat (first | exact List.Sublist.refl _ | exact List.nil_sublist _ | refine List.Sublist.cons_cons _ ?_ | apply List.sublist_append_of_sublist_right | apply List.Sublist.cons))) rfl rfl ?_)
     | (refine Wh_guard_yes rfl ?_
        refine Wh_val (by first | exact hp | exact trivial | (refine hp.drop ?_; repeat (first | exact List.Sublist.refl _ | exact List.nil_sublist _ | refine List.Sublist.cons_cons _ ?_ | apply List.sublist_append_of_sublist_right | apply List.Sublist.cons))) (fun w hp => R_load_a (cs := y33.cells) Tryz.underlying39 rfl sz39 rfl rfl (fun j u hj => hp.cellF (by first | assumption | (repeat (first | exact List.mem_cons_self | apply List.mem_append_right | apply List.mem_cons_of_mem))) (by rw [Nat.zero_add]; exact hj))) rfl ?_)
   first
     | (refine Wh_guard_no (by first | exact hp | exact trivial | (refine hp.drop ?_; repeat (first | exact List.Sublist.refl _ | exact List.nil_sublist _ | refine List.Sublist.cons_cons _ ?_ | apply List.sublist_append_of_sublist_right | apply List.Sublist.cons))) rfl rfl rfl ?_)
     | (refine Wh_guard_un (by first | exact hp | exact trivial | (refine hp.drop ?_; repeat (first | exact List.Sublist.refl _ | exact List.nil_sublist _ | refine List.Sublist.cons_cons _ ?_ | apply List.sublist_append_of_sublist_right | apply List.Sublist.cons))) rfl rfl ?_)
     | (refine Wh_guard_yes rfl ?_
        refine Wh_val (by first | exact hp | exact trivial | (refine hp.drop ?_; repeat (first | exact List.Sublist.refl _ | exact List.nil_sublist _ | refine List.Sublist.cons_cons _ ?_ | apply List.sublist_append_of_sublist_right | apply List.Sublist.cons))) (fun w hp => R_move rfl) rfl ?_)
   first
     | (refine Wh_guard_no (by first | exact hp | exact trivial | (refine hp.drop ?_; repeat (first | exact List.Sublist.refl _ | exact List.nil_sublist _ | refine List.Sublist.cons_cons _ ?_ | apply List.sublist_append_of_sublist_right | apply List.Sublist.cons))) rfl rfl rfl ?_)
     | (refine Wh_guard_un (by first | exact hp | exact trivial | (refine hp.drop ?_; repeat (first | exact List.Sublist.refl _ | exact List.nil_sublist _ | refine List.Sublist.cons_cons _ ?_ | apply List.sublist_append_of_sublist_right | apply List.Sublist.cons))) rfl rfl ?_)
     | (refine Wh_guard_yes rfl ?_
        refine Wh_val (by first | exact hp | exact trivial | (refine hp.drop ?_; repeat (first | exact List.Sublist.refl _ | exact List.nil_sublist _ | refine List.Sublist.cons_cons _ ?_ | apply List.sublist_append_of_sublist_right | apply List.Sublist.cons))) (fun w hp => R_move rfl) rfl ?_)
   first
     | (refine Wh_guard_no (by first | exact hp | exact trivial | (refine hp.drop ?_; repeat (first | exact List.Sublist.refl _ | exact List.nil_sublist _ | refine List.Sublist.cons_cons _ ?_ | apply List.sublist_append_of_sublist_right | apply List.Sublist.cons))) rfl rfl rfl ?_)
     | (refine Wh_guard_un (by first | exact hp | exact trivial | (refine hp.drop ?_; repeat (first | exact List.Sublist.refl _ | exact List.nil_sublist _ | refine List.Sublist.cons_cons _ ?_ | apply List.sublist_append_of_sublist_right | apply List.Sublist.cons))) rfl rfl ?_)
     | (refine Wh_guard_yes rfl ?_
        refine Wh_val (by first | exact hp | exact trivial | (refine hp.drop ?_; repeat (first | exact List.Sublist.refl _ | exact List.nil_sublist _ | refine List.Sublist.cons_cons _ ?_ | apply List.sublist_append_of_sublist_right | apply List.Sublist.cons))) (fun w hp => R_indexAddr_sl Tryz.underlying23 sz39 rfl rfl ?_ ?_) rfl ?_
        (focus (omega))
        (focus (first | omega | (simp; done) | (simp; omega))))
   first
     | (refine Wh_guard_no (by first | exact hp | exact trivial | (refine hp.drop ?_; repeat (first | exact List.Sublist.refl _ | exact List.nil_sublist _ | refine List.Sublist.cons_cons _ ?_ | apply List.sublist_append_of_sublist_right | apply List.Sublist.cons))) rfl rfl rfl ?_)
     | (refine Wh_guard_un (by first | exact hp | exact trivial | (refine hp.drop ?_; repeat (first | exact List.Sublist.refl _ | exact List.nil_sublist _ | refine List.Sublist.cons_cons _ ?_ | apply List.sublist_append_of_sublist_right | apply List.Sublist.cons))) rfl rfl ?_)
     | (refine Wh_guard_yes rfl ?_
        refine Wh_val (by first | exact hp | exact trivial | (refine hp.drop ?_; repeat (first | exact List.Sublist.refl _ | exact List.nil_sublist _ | refine List.Sublist.cons_cons _ ?_ | apply List.sublist_append_of_sublist_right | apply List.Sublist.cons))) (fun w hp => R_load_a (cs := x.cells) Tryz.underlying39 rfl sz39 rfl rfl (fun j u hj => hp.cell_old0 (file_cell hrX hx hj))) rfl ?_)
   refine Wh_step ?_
   first
     | (refine W_guard_no rfl rfl rfl ?_)
     | (refine W_guard_un rfl rfl ?_)
     | (refine W_guard_yes rfl ?_
        refine W_acall hp rfl (((same_spec w y33 x (hyo33.ok (fun q hq => hp.own q (by simp [hq]))) ((hok x (List.mem_of_getElem? hx)).keep hp) (by rw [hy33]; have := (hfl x.f (List.mem_of_getElem? (filesF_at hx))).1; omega)).eq (congrArg Value.bool (decide_eq_true hy33)))) rfl ?_
        clear hp; intro w hp)
   refine W_nil ?_
   refine Wh_next (by first | exact hp | exact trivial | (refine hp.drop ?_; repeat (first | exact List.Sublist.refl _ | exact List.nil_sublist _ | refine List.Sublist.cons_cons _ ?_ | apply List.sublist_append_of_sublist_right | apply List.Sublist.cons))) ?_
   first
     | (refine Wh_guard_no (by first | exact hp | exact trivial | (refine hp.drop ?_; repeat (first | exact List.Sublist.refl _ | exact List.nil_sublist _ | refine List.Sublist.cons_cons _ ?_ | apply List.sublist_append_of_sublist_right | apply List.Sublist.cons))) rfl rfl rfl ?_)
     | (refine Wh_guard_un (by first | exact hp | exact trivial | (refine hp.drop ?_; repeat (first | exact List.Sublist.refl _ | exact List.nil_sublist _ | refine List.Sublist.cons_cons _ ?_ | apply List.sublist_append_of_sublist_right | apply List.Sublist.cons))) rfl rfl ?_)
     | (refine Wh_guard_yes rfl ?_
        first
          | (refine Wh_val (by first | exact hp | exact trivial | (refine hp.drop ?_; repeat (first | exact List.Sublist.refl _ | exact List.nil_sublist _ | refine List.Sublist.cons_cons _ ?_ | apply List.sublist_append_of_sublist_right | apply List.Sublist.cons))) (fun w hp => R_not_t rfl) rfl ?_)
          | (refine Wh_val (by first | exact hp | exact trivial | (refine hp.drop ?_; repeat (first | exact List.Sublist.refl _ | exact List.nil_sublist _ | refine List.Sublist.cons_cons _ ?_ | apply List.sublist_append_of_sublist_right | apply List.Sublist.cons))) (fun w hp => R_not_f rfl) rfl ?_)
          | (refine Wh_val (by first | exact hp | exact trivial | (refine hp.drop ?_; repeat (first | exact List.Sublist.refl _ | exact List.nil_sublist _ | refine List.Sublist.cons_cons _ ?_ | apply List.sublist_append_of_sublist_right | apply List.Sublist.cons))) (fun w hp => R_not rfl) rfl ?_))
   first
     | (refine Wh_guard_no (by first | exact hp | exact trivial | (refine hp.drop ?_; repeat (first | exact List.Sublist.refl _ | exact List.nil_sublist _ | refine List.Sublist.cons_cons _ ?_ | apply List.sublist_append_of_sublist_right | apply List.Sublist.cons))) rfl rfl rfl ?_)
     | (refine Wh_guard_un (by first | exact hp | exact trivial | (refine hp.drop ?_; repeat (first | exact List.Sublist.refl _ | exact List.nil_sublist _ | refine List.Sublist.cons_cons _ ?_ | apply List.sublist_append_of_sublist_right | apply List.Sublist.cons))) rfl rfl ?_)
     | (refine Wh_guard_yes rfl ?_
        first
          | (refine Wh_val (by first | exact hp | exact trivial | (refine hp.drop ?_; repeat (first | exact List.Sublist.refl _ | exact List.nil_sublist _ | refine List.Sublist.cons_cons _ ?_ | apply List.sublist_append_of_sublist_right | apply List.Sublist.cons))) (fun w hp => R_pick_t rfl rfl) rfl ?_)
          | (refine Wh_val (by first | exact hp | exact trivial | (refine hp.drop ?_; repeat (first | exact List.Sublist.refl _ | exact List.nil_sublist _ | refine List.Sublist.cons_cons _ ?_ | apply List.sublist_append_of_sublist_right | apply List.Sublist.cons))) (fun w hp => R_pick_f rfl rfl) rfl ?_)
          | (refine Wh_val (by first | exact hp | exact trivial | (refine hp.drop ?_; repeat (first | exact List.Sublist.refl _ | exact List.nil_sublist _ | refine List.Sublist.cons_cons _ ?_ | apply List.sublist_append_of_sublist_right | apply List.Sublist.cons))) (fun w hp => R_pick_b rfl rfl rfl) rfl ?_))
   first
     | (refine Wh_val (by first | exact hp | exact trivial | (refine hp.drop ?_; repeat (first | exact List.Sublist.refl _ | exact List.nil_sublist _ | refine List.Sublist.cons_cons _ ?_ | apply List.sublist_append_of_sublist_right | apply List.Sublist.cons))) (fun w hp => R_pick_t rfl rfl) rfl ?_)
     | (refine Wh_val (by first | exact hp | exact trivial | (refine hp.drop ?_; repeat (first | exact List.Sublist.refl _ | exact List.nil_sublist _ | refine List.Sublist.cons_cons _ ?_ | apply List.sublist_append_of_sublist_right | apply List.Sublist.cons))) (fun w hp => R_pick_f rfl rfl) rfl ?_)
     | (refine Wh_val (by first | exact hp | exact trivial | (refine hp.drop ?_; repeat (first | exact List.Sublist.refl _ | exact List.nil_sublist _ | refine List.Sublist.cons_cons _ ?_ | apply List.sublist_append_of_sublist_right | apply List.Sublist.cons))) (fun w hp => R_pick_b rfl rfl rfl) rfl ?_)
   refine Wh_val (by first | exact hp | exact trivial | (refine hp.drop ?_; repeat (first | exact List.Sublist.refl _ | exact List.nil_sublist _ | refine List.Sublist.cons_cons _ ?_ | apply List.sublist_append_of_sublist_right | apply List.Sublist.cons))) (fun w hp => R_move rfl) rfl ?_
   first
     | refine Wh_guard_lit_t rfl ?_
     | refine Wh_guard_lit_f rfl ?_
     | refine Wh_guard_lit_u rfl ?_
     | refine Wh_guard_split_d rfl rfl rfl (fun hg7 => ?_) (fun hg7 => ?_)
     | refine Wh_guard_split_n rfl rfl rfl (fun hg7 => ?_) (fun hg7 => ?_)
     | refine Wh_guard_split_nb rfl rfl rfl (fun hg7 => ?_) (fun hg7 => ?_)
     | refine Wh_guard_split rfl rfl rfl (fun hg7 => ?_) (fun hg7 => ?_)
   all_goals try (exfalso; first | omega | (simp only [Bool.false_eq_true, reduceCtorEq] at hg7; done) | (refine absurd hg7 ?_; with_reducible assumption) | (refine absurd ?_ hg7; with_reducible assumption))
   all_goals (
    first
      | (refine Wh_guard_no (by first | exact hp | exact trivial | (refine hp.drop ?_; repeat (first | exact List.Sublist.refl _ | exact List.nil_sublist _ | refine List.Sublist.cons_cons _ ?_ | apply List.sublist_append_of_sublist_right | apply List.Sublist.cons))) rfl rfl rfl ?_)
      | (refine Wh_guard_un (by first | exact hp | exact trivial | (refine hp.drop ?_; repeat (first | exact List.Sublist.refl _ | exact List.nil_sublist _ | refine List.Sublist.cons_cons _ ?_ | apply List.sublist_append_of_sublist_right | apply List.Sublist.cons))) rfl rfl ?_)
      | (refine Wh_guard_yes rfl ?_
         refine Wh_val (by first | exact hp | exact trivial | (refine hp.drop ?_; repeat (first | exact List.Sublist.refl _ | exact List.nil_sublist _ | refine List.Sublist.cons_cons _ ?_ | apply List.sublist_append_of_sublist_right | apply List.Sublist.cons))) (fun w hp => R_move rfl) rfl ?_)
    first
      | (refine Wh_guard_no (by first | exact hp | exact trivial | (refine hp.drop ?_; repeat (first | exact List.Sublist.refl _ | exact List.nil_sublist _ | refine List.Sublist.cons_cons _ ?_ | apply List.sublist_append_of_sublist_right | apply List.Sublist.cons))) rfl rfl rfl ?_)
      | (refine Wh_guard_un (by first | exact hp | exact trivial | (refine hp.drop ?_; repeat (first | exact List.Sublist.refl _ | exact List.nil_sublist _ | refine List.Sublist.cons_cons _ ?_ | apply List.sublist_append_of_sublist_right | apply List.Sublist.cons))) rfl rfl ?_)
      | (refine Wh_guard_yes rfl ?_
         first
           | (refine Wh_val (by first | exact hp | exact trivial | (refine hp.drop ?_; repeat (first | exact List.Sublist.refl _ | exact List.nil_sublist _ | refine List.Sublist.cons_cons _ ?_ | apply List.sublist_append_of_sublist_right | apply List.Sublist.cons))) (fun w hp => R_not_t rfl) rfl ?_)
           | (refine Wh_val (by first | exact hp | exact trivial | (refine hp.drop ?_; repeat (first | exact List.Sublist.refl _ | exact List.nil_sublist _ | refine List.Sublist.cons_cons _ ?_ | apply List.sublist_append_of_sublist_right | apply List.Sublist.cons))) (fun w hp => R_not_f rfl) rfl ?_)
           | (refine Wh_val (by first | exact hp | exact trivial | (refine hp.drop ?_; repeat (first | exact List.Sublist.refl _ | exact List.nil_sublist _ | refine List.Sublist.cons_cons _ ?_ | apply List.sublist_append_of_sublist_right | apply List.Sublist.cons))) (fun w hp => R_not rfl) rfl ?_))
    first
      | (refine Wh_guard_no (by first | exact hp | exact trivial | (refine hp.drop ?_; repeat (first | exact List.Sublist.refl _ | exact List.nil_sublist _ | refine List.Sublist.cons_cons _ ?_ | apply List.sublist_append_of_sublist_right | apply List.Sublist.cons))) rfl rfl rfl ?_)
      | (refine Wh_guard_un (by first | exact hp | exact trivial | (refine hp.drop ?_; repeat (first | exact List.Sublist.refl _ | exact List.nil_sublist _ | refine List.Sublist.cons_cons _ ?_ | apply List.sublist_append_of_sublist_right | apply List.Sublist.cons))) rfl rfl ?_)
      | (refine Wh_guard_yes rfl ?_
         refine Wh_val (by first | exact hp | exact trivial | (refine hp.drop ?_; repeat (first | exact List.Sublist.refl _ | exact List.nil_sublist _ | refine List.Sublist.cons_cons _ ?_ | apply List.sublist_append_of_sublist_right | apply List.Sublist.cons))) (fun w hp => R_move rfl) rfl ?_)
    first
      | refine Wh_guard_lit_t rfl ?_
      | refine Wh_guard_lit_f rfl ?_
      | refine Wh_guard_lit_u rfl ?_
      | refine Wh_guard_split_d rfl rfl rfl (fun hg8 => ?_) (fun hg8 => ?_)
      | refine Wh_guard_split_n rfl rfl rfl (fun hg8 => ?_) (fun hg8 => ?_)
      | refine Wh_guard_split_nb rfl rfl rfl (fun hg8 => ?_) (fun hg8 => ?_)
      | refine Wh_guard_split rfl rfl rfl (fun hg8 => ?_) (fun hg8 => ?_)
    all_goals try (exfalso; first | omega | (simp only [Bool.false_eq_true, reduceCtorEq] at hg8; done) | (refine absurd hg8 ?_; with_reducible assumption) | (refine absurd ?_ hg8; with_reducible assumption))
    all_goals (
     first
       | (refine Wh_guard_no (by first | exact hp | exact trivial | (refine hp.drop ?_; repeat (first | exact List.Sublist.refl _ | exact List.nil_sublist _ | refine List.Sublist.cons_cons _ ?_ | apply List.sublist_append_of_sublist_right | apply List.Sublist.cons))) rfl rfl rfl ?_)
       | (refine Wh_guard_un (by first | exact hp | exact trivial | (refine hp.drop ?_; repeat (first | exact List.Sublist.refl _ | exact List.nil_sublist _ | refine List.Sublist.cons_cons _ ?_ | apply List.sublist_append_of_sublist_right | apply List.Sublist.cons))) rfl rfl ?_)
       | (refine Wh_guard_yes rfl ?_
          refine Wh_val (by first | exact hp | exact trivial | (refine hp.drop ?_; repeat (first | exact List.Sublist.refl _ | exact List.nil_sublist _ | refine List.Sublist.cons_cons _ ?_ | apply List.sublist_append_of_sublist_right | apply List.Sublist.cons))) (fun w hp => R_load_a (cs := y33.cells) Tryz.underlying39 rfl sz39 rfl rfl (fun j u hj => hp.cellF (by first | assumption | (repeat (first | exact List.mem_cons_self | apply List.mem_append_right | apply List.mem_cons_of_mem))) (by rw [Nat.zero_add]; exact hj))) rfl ?_)
     first
       | (refine Wh_guard_no (by first | exact hp | exact trivial | (refine hp.drop ?_; repeat (first | exact List.Sublist.refl _ | exact List.nil_sublist _ | refine List.Sublist.cons_cons _ ?_ | apply List.sublist_append_of_sublist_right | apply List.Sublist.cons))) rfl rfl rfl ?_)
       | (refine Wh_guard_un (by first | exact hp | exact trivial | (refine hp.drop ?_; repeat (first | exact List.Sublist.refl _ | exact List.nil_sublist _ | refine List.Sublist.cons_cons _ ?_ | apply List.sublist_append_of_sublist_right | apply List.Sublist.cons))) rfl rfl ?_)
       | (refine Wh_guard_yes rfl ?_
          refine Wh_val (by first | exact hp | exact trivial | (refine hp.drop ?_; repeat (first | exact List.Sublist.refl _ | exact List.nil_sublist _ | refine List.Sublist.cons_cons _ ?_ | apply List.sublist_append_of_sublist_right | apply List.Sublist.cons))) (fun w hp => R_build0  ([(.slice none 0 0), (.bool false), (.string ⟨#[]⟩), (.slice none 0 0)]) (by kernel_rfl)) rfl ?_)
     refine Wh_step ?_
     first
       | (refine W_guard_no rfl rfl rfl ?_)
       | (refine W_guard_un rfl rfl ?_)
       | (refine W_guard_yes rfl ?_
          refine W_acall hp rfl (((same_spec w y33 (⟨zeroF, none, 0, none, 0⟩ : FS) (hyo33.ok (fun q hq => hp.own q (by simp [hq]))) (FO.zero.ok (fun q hq => by cases hq)) (by rw [hy33]; exact Nat.zero_le _)).eq (congrArg Value.bool (decide_eq_true (hy33.trans rfl))))) rfl ?_
          clear hp; intro w hp)
     refine W_nil ?_
     refine Wh_next (by first | exact hp | exact trivial | (refine hp.drop ?_; repeat (first | exact List.Sublist.refl _ | exact List.nil_sublist _ | refine List.Sublist.cons_cons _ ?_ | apply List.sublist_append_of_sublist_right | apply List.Sublist.cons))) ?_
     first
       | (refine Wh_guard_no (by first | exact hp | exact trivial | (refine hp.drop ?_; repeat (first | exact List.Sublist.refl _ | exact List.nil_sublist _ | refine List.Sublist.cons_cons _ ?_ | apply List.sublist_append_of_sublist_right | apply List.Sublist.cons))) rfl rfl rfl ?_)
       | (refine Wh_guard_un (by first | exact hp | exact trivial | (refine hp.drop ?_; repeat (first | exact List.Sublist.refl _ | exact List.nil_sublist _ | refine List.Sublist.cons_cons _ ?_ | apply List.sublist_append_of_sublist_right | apply List.Sublist.cons))) rfl rfl ?_)
       | (refine Wh_guard_yes rfl ?_
          first
            | (refine Wh_val (by first | exact hp | exact trivial | (refine hp.drop ?_; repeat (first | exact List.Sublist.refl _ | exact List.nil_sublist _ | refine List.Sublist.cons_cons _ ?_ | apply List.sublist_append_of_sublist_right | apply List.Sublist.cons))) (fun w hp => R_not_t rfl) rfl ?_)
            | (refine Wh_val (by first | exact hp | exact trivial | (refine hp.drop ?_; repeat (first | exact List.Sublist.refl _ | exact List.nil_sublist _ | refine List.Sublist.cons_cons _ ?_ | apply List.sublist_append_of_sublist_right | apply List.Sublist.cons))) (fun w hp => R_not_f rfl) rfl ?_)
            | (refine Wh_val (by first | exact hp | exact trivial | (refine hp.drop ?_; repeat (first | exact List.Sublist.refl _ | exact List.nil_sublist _ | refine List.Sublist.cons_cons _ ?_ | apply List.sublist_append_of_sublist_right | apply List.Sublist.cons))) (fun w hp => R_not rfl) rfl ?_))
     first
       | (refine Wh_guard_no (by first | exact hp | exact trivial | (refine hp.drop ?_; repeat (first | exact List.Sublist.refl _ | exact List.nil_sublist _ | refine List.Sublist.cons_cons _ ?_ | apply List.sublist_append_of_sublist_right | apply List.Sublist.cons))) rfl rfl rfl ?_)
       | (refine Wh_guard_un (by first | exact hp | exact trivial | (refine hp.drop ?_; repeat (first | exact List.Sublist.refl _ | exact List.nil_sublist _ | refine List.Sublist.cons_cons _ ?_ | apply List.sublist_append_of_sublist_right | apply List.Sublist.cons))) rfl rfl ?_)
       | (refine Wh_guard_yes rfl ?_
          first
            | (refine Wh_val (by first | exact hp | exact trivial | (refine hp.drop ?_; repeat (first | exact List.Sublist.refl _ | exact List.nil_sublist _ | refine List.Sublist.cons_cons _ ?_ | apply List.sublist_append_of_sublist_right | apply List.Sublist.cons))) (fun w hp => R_pick_t rfl rfl) rfl ?_)
            | (refine Wh_val (by first | exact hp | exact trivial | (refine hp.drop ?_; repeat (first | exact List.Sublist.refl _ | exact List.nil_sublist _ | refine List.Sublist.cons_cons _ ?_ | apply List.sublist_append_of_sublist_right | apply List.Sublist.cons))) (fun w hp => R_pick_f rfl rfl) rfl ?_)
            | (refine Wh_val (by first | exact hp | exact trivial | (refine hp.drop ?_; repeat (first | exact List.Sublist.refl _ | exact List.nil_sublist _ | refine List.Sublist.cons_cons _ ?_ | apply List.sublist_append_of_sublist_right | apply List.Sublist.cons))) (fun w hp => R_pick_b rfl rfl rfl) rfl ?_))
     first
       | (refine Wh_val (by first | exact hp | exact trivial | (refine hp.drop ?_; repeat (first | exact List.Sublist.refl _ | exact List.nil_sublist _ | refine List.Sublist.cons_cons _ ?_ | apply List.sublist_append_of_sublist_right | apply List.Sublist.cons))) (fun w hp => R_pick_t rfl rfl) rfl ?_)
       | (refine Wh_val (by first | exact hp | exact trivial | (refine hp.drop ?_; repeat (first | exact List.Sublist.refl _ | exact List.nil_sublist _ | refine List.Sublist.cons_cons _ ?_ | apply List.sublist_append_of_sublist_right | apply List.Sublist.cons))) (fun w hp => R_pick_f rfl rfl) rfl ?_)
       | (refine Wh_val (by first | exact hp | exact trivial | (refine hp.drop ?_; repeat (first | exact List.Sublist.refl _ | exact List.nil_sublist _ | refine List.Sublist.cons_cons _ ?_ | apply List.sublist_append_of_sublist_right | apply List.Sublist.cons))) (fun w hp => R_pick_b rfl rfl rfl) rfl ?_)
     refine Wh_nil ?_
     refine N_then_k ?_
     first
       | refine K_cond_d rfl (fun hc9 => ?_) (fun hc9 => ?_)
       | refine K_cond_n rfl (fun hc9 => ?_) (fun hc9 => ?_)
       | refine K_cond_nb rfl (fun hc9 => ?_) (fun hc9 => ?_)
       | refine K_cond_t rfl (fun hc9 => ?_) (fun hc9 => ?_)
     · try (exfalso; first | omega | (simp only [Bool.false_eq_true, reduceCtorEq] at hc9; done) | (refine absurd hc9 ?_; with_reducible assumption) | (refine absurd ?_ hc9; with_reducible assumption))
       all_goals (
 refine K_seq ?_
 refine K_region ?_
 refine W_assign rfl rfl ?_
 refine W_nil ?_
 refine N_then_k ?_
 refine K_ret ?_
 refine N_then_ret ?_
 refine N_done1 (.inr rfl) rfl rfl ?_
 first
   | exact ⟨_, rfl, rfl, hp.nil⟩
   | (refine ⟨_, rfl, congrArg Value.bool ?_, hp.nil⟩; simp [*]; done))
     · try (exfalso; first | omega | (simp only [Bool.false_eq_true, reduceCtorEq] at hc9; done) | (refine absurd hc9 ?_; with_reducible assumption) | (refine absurd ?_ hc9; with_reducible assumption))
       all_goals (
 refine K_skip ?_
 refine N_then_k ?_
 refine K_seq ?_
 refine K_region ?_
 refine W_move rfl rfl ?_
 refine W_move rfl rfl ?_
 refine W_acall hp rfl (((kind_spec w t hok2.wf (hpHolds hp (H := t.heap) (fun y hy => by simp [hy])) p Ap cp (hrp.keep hp) (by omega)).eq (congrArg (Value.int .i64) (tr_kind hok2 hc0 _)))) rfl ?_
 clear hp; intro w hp
 refine W_move rfl rfl ?_
 refine W_move rfl rfl ?_
 refine W_acall hp rfl ((rkind_spec w X _ c (hrX.keep hp) (fun y hy => (hok y hy).keep hp) (by omega) hfT p Ap cp (hrp.keep hp) (by omega) hcp)) rfl ?_
 clear hp; intro w hp
 first
   | (refine W_eql_t rfl rfl ?_ rfl ?_; (focus (omega)))
   | (refine W_eql_f rfl rfl ?_ rfl ?_; (focus (omega)))
   | (refine W_eql rfl rfl rfl ?_)
 refine W_move rfl rfl ?_
 first
   | refine W_guard_lit_t rfl ?_
   | refine W_guard_lit_f rfl ?_
   | refine W_guard_lit_u rfl ?_
   | refine W_guard_split_d rfl rfl rfl (fun hg10 => ?_) (fun hg10 => ?_)
   | refine W_guard_split_n rfl rfl rfl (fun hg10 => ?_) (fun hg10 => ?_)
   | refine W_guard_split_nb rfl rfl rfl (fun hg10 => ?_) (fun hg10 => ?_)
   | refine W_guard_split rfl rfl rfl (fun hg10 => ?_) (fun hg10 => ?_)
 all_goals try (exfalso; first | omega | (simp only [Bool.false_eq_true, reduceCtorEq] at hg10; done) | (refine absurd hg10 ?_; with_reducible assumption) | (refine absurd ?_ hg10; with_reducible assumption))
 all_goals (
  first
    | (iterate 7 refine W_guard_no rfl rfl rfl ?_)
    | (iterate 7 refine W_guard_un rfl rfl ?_)
    | (refine W_guard_yes rfl ?_
       refine W_move rfl rfl ?_
       refine W_guard_yes rfl ?_
       refine W_move rfl rfl ?_
       refine W_guard_yes rfl ?_
       refine W_bcall hp rfl ((list_spec w t hok2.wf (hpHolds hp (H := t.heap) (fun y hy => by simp [hy])) p Ap cp (hrp.keep hp) (by omega) (tr_lens hok2 hfT))) rfl ?_
       clear hp; intro v75 G75 w r75 hp
       skip
       refine W_guard_yes rfl ?_
       refine W_move rfl rfl ?_
       refine W_guard_yes rfl ?_
       refine W_move rfl rfl ?_
       refine W_guard_yes rfl ?_
       refine W_bcall hp rfl ((rlist_spec w X _ c (hrX.keep hp) (fun y hy => (hok y hy).keep hp) (by omega) hfT p Ap cp (hrp.keep hp) (by omega) hcp)) rfl ?_
       clear hp; intro v78 G78 w r78 hp
       obtain ⟨R, o78, hR78⟩ := r78
       obtain ⟨A78, c78, rfl⟩ := o78.form
       have hRn := names_le hok2 hfT p
       rw [tr_names hok2 hc0 hR78] at r75 hRn
       obtain ⟨A75, c75, rfl⟩ := r75.form
       refine W_guard_yes rfl ?_
       refine W_acall hp rfl (((texts_spec w R R _ _ _ _ (OS.rdm (show OS _ _ _ _ _ _ from r75) (fun q hq => hp.own q (by simp [hq]))) (OS.rdm (show OS _ _ _ _ _ _ from o78) (fun q hq => hp.own q (by simp [hq]))) hRn).eq (congrArg Value.bool (decide_eq_true rfl)))) rfl ?_
       clear hp; intro w hp)
  first
    | (refine W_pick_t rfl rfl rfl ?_)
    | (refine W_pick_f rfl rfl rfl ?_)
    | (refine W_pick_b rfl rfl rfl rfl ?_)
  refine W_move rfl rfl ?_
  first
    | refine W_guard_lit_t rfl ?_
    | refine W_guard_lit_f rfl ?_
    | refine W_guard_lit_u rfl ?_
    | refine W_guard_split_d rfl rfl rfl (fun hg11 => ?_) (fun hg11 => ?_)
    | refine W_guard_split_n rfl rfl rfl (fun hg11 => ?_) (fun hg11 => ?_)
    | refine W_guard_split_nb rfl rfl rfl (fun hg11 => ?_) (fun hg11 => ?_)
    | refine W_guard_split rfl rfl rfl (fun hg11 => ?_) (fun hg11 => ?_)
  all_goals try (exfalso; first | omega | (simp only [Bool.false_eq_true, reduceCtorEq] at hg11; done) | (refine absurd hg11 ?_; with_reducible assumption) | (refine absurd ?_ hg11; with_reducible assumption))
  all_goals (
   first
     | (iterate 4 refine W_guard_no rfl rfl rfl ?_)
     | (iterate 4 refine W_guard_un rfl rfl ?_)
     | (refine W_guard_yes rfl ?_
        refine W_move rfl rfl ?_
        refine W_guard_yes rfl ?_
        refine W_bcall hp rfl ((entries_spec w t (hpHolds hp (H := t.heap) (fun y hy => by simp [hy])) hok2.row hok2.rows (by rw [tr_len hok2, filesF_length]; omega) (by rw [hok2.files]; exact hfT))) rfl ?_
        clear hp; intro v83 G83 w r83 hp
        obtain ⟨Y83, H831, H832, ho83, hF83, hY83, rfl⟩ := r83
        obtain ⟨A83, c83, rfl⟩ := ho83.form
        replace hY83 := hY83.trans hok2.files
        have hl83 : Y83.length = X.length := by have := congrArg List.length hY83; rwa [filesF_length, filesF_length] at this
        refine W_guard_yes rfl ?_
        refine W_move rfl rfl ?_
        refine W_guard_yes rfl ?_
        refine W_acall hp rfl (((sames_spec w Y83 A83 c83 (OS.rdm (show OS _ _ _ _ _ _ from ho83) (fun q hq => hp.own q (by simp [hq]))) (hF83.ok (fun q hq => hp.own q (by simp [hq]))) X _ c (hrX.keep hp) (fun y hy => (hok y hy).keep hp) (by omega) (fun y hy => Nat.le_trans (hfl y.f (by rw [← hY83]; exact List.mem_map_of_mem hy)).1 (by decide))).eq (congrArg Value.bool (decide_eq_true hY83)))) rfl ?_
        clear hp; intro w hp)
   first
     | (refine W_pick_t rfl rfl rfl ?_)
     | (refine W_pick_f rfl rfl rfl ?_)
     | (refine W_pick_b rfl rfl rfl rfl ?_)
   refine W_assign rfl rfl ?_
   refine W_nil ?_
   refine N_then_k ?_
   refine K_ret ?_
   refine N_done1 (.inr rfl) rfl rfl ?_
   first
     | exact ⟨_, rfl, rfl, hp.nil⟩
     | (refine ⟨_, rfl, congrArg Value.bool ?_, hp.nil⟩; simp [*]; done)))))))))))))

end Go.Proofs.YticinfoljhlnbaaGreatDoor
