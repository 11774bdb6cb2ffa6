/-
  The fixed examples of package field, and the laws, walked.
-/
import Derived.Test.YtiimcopdkjbijaaDoorFldA
namespace Go.Proofs.YtiimcopdkjbijaaDoor
open Go.Sx Go.RowKit
set_option linter.unusedVariables false
set_option linter.unusedSimpArgs false
set_option maxRecDepth 100000

theorem wrong_spec (w0 : World) (hg : ErrT w0) (s k : Int) : PureAt Tryd.prog 10 [fltV s k, .int .i64 s, .int .i64 k] (.bool true) w0 := by
  refine PureAt.intro go10 Tryd.func10 rfl rfl fun hp => ?_
  refine (fun (hk : ∀ w, Hp w0 [] [] w → K _ _ _ _ _ w) => hk w0 hp) fun w hp => ?_
  refine K_seq ?_
  refine K_region ?_
  refine W_assign rfl rfl ?_
  refine W_nil ?_
  refine N_then_k ?_
  refine K_seq ?_
  refine K_region ?_
  refine W_move rfl rfl ?_
  refine W_acall hp rfl ((fault_status w (hg.keep hp) s k)) rfl ?_
  clear hp; intro w hp
  refine W_move rfl rfl ?_
  refine W_extract rfl rfl rfl ?_
  refine W_extract rfl rfl rfl ?_
  refine W_assign rfl rfl ?_
  refine W_assign rfl rfl ?_
  refine W_nil ?_
  refine N_then_k ?_
  refine K_seq ?_
  refine K_region ?_
  refine W_move rfl rfl ?_
  refine W_acall hp rfl ((fault_at w (hg.keep hp) s k)) rfl ?_
  clear hp; intro w hp
  refine W_move rfl rfl ?_
  refine W_extract rfl rfl rfl ?_
  refine W_extract rfl rfl rfl ?_
  refine W_assign rfl rfl ?_
  refine W_assign rfl rfl ?_
  refine W_nil ?_
  refine N_then_k ?_
  refine K_seq ?_
  refine K_region ?_
  refine W_move rfl rfl ?_
  refine W_move rfl rfl ?_
  first
    | refine W_guard_lit_t rfl ?_
    | refine W_guard_lit_f rfl ?_
    | refine W_guard_lit_u rfl ?_
    | refine W_guard_split_d rfl rfl rfl (fun hg1 => ?_) (fun hg1 => ?_)
    | refine W_guard_split_n rfl rfl rfl (fun hg1 => ?_) (fun hg1 => ?_)
    | refine W_guard_split_nb rfl rfl rfl (fun hg1 => ?_) (fun hg1 => ?_)
    | refine W_guard_split rfl rfl rfl (fun hg1 => ?_) (fun hg1 => ?_)
  all_goals try (exfalso; first | omega | (simp only [Bool.false_eq_true, reduceCtorEq] at hg1; done) | (refine absurd hg1 ?_; with_reducible assumption) | (refine absurd ?_ hg1; with_reducible assumption))
  all_goals (
   first
     | (iterate 3 refine W_guard_no rfl rfl rfl ?_)
     | (iterate 3 refine W_guard_un rfl rfl ?_)
     | (refine W_guard_yes rfl ?_
        refine W_move rfl rfl ?_
        refine W_guard_yes rfl ?_
        refine W_move rfl rfl ?_
        refine W_guard_yes rfl ?_
        first
          | (refine W_eql_t rfl rfl ?_ rfl ?_; (focus (omega)))
          | (refine W_eql_f rfl rfl ?_ rfl ?_; (focus (omega)))
          | (refine W_eql rfl rfl rfl ?_))
   first
     | (refine W_pick_t rfl rfl rfl ?_)
     | (refine W_pick_f rfl rfl rfl ?_)
     | (refine W_pick_b rfl rfl rfl rfl ?_)
   refine W_move rfl rfl ?_
   first
     | refine W_guard_lit_t rfl ?_
     | refine W_guard_lit_f rfl ?_
     | refine W_guard_lit_u rfl ?_
     | refine W_guard_split_d rfl rfl rfl (fun hg2 => ?_) (fun hg2 => ?_)
     | refine W_guard_split_n rfl rfl rfl (fun hg2 => ?_) (fun hg2 => ?_)
     | refine W_guard_split_nb rfl rfl rfl (fun hg2 => ?_) (fun hg2 => ?_)
     | refine W_guard_split rfl rfl rfl (fun hg2 => ?_) (fun hg2 => ?_)
   all_goals try (exfalso; first | omega | (simp only [Bool.false_eq_true, reduceCtorEq] at hg2; done) | (refine absurd hg2 ?_; with_reducible assumption) | (refine absurd ?_ hg2; with_reducible assumption))
   all_goals (
    first
      | (refine W_guard_no rfl rfl rfl ?_)
      | (refine W_guard_un rfl rfl ?_)
      | (refine W_guard_yes rfl ?_
         refine W_move rfl rfl ?_)
    first
      | (refine W_pick_t rfl rfl rfl ?_)
      | (refine W_pick_f rfl rfl rfl ?_)
      | (refine W_pick_b rfl rfl rfl rfl ?_)
    refine W_move rfl rfl ?_
    first
      | refine W_guard_lit_t rfl ?_
      | refine W_guard_lit_f rfl ?_
      | refine W_guard_lit_u rfl ?_
      | refine W_guard_split_d rfl rfl rfl (fun hg3 => ?_) (fun hg3 => ?_)
      | refine W_guard_split_n rfl rfl rfl (fun hg3 => ?_) (fun hg3 => ?_)
      | refine W_guard_split_nb rfl rfl rfl (fun hg3 => ?_) (fun hg3 => ?_)
      | refine W_guard_split rfl rfl rfl (fun hg3 => ?_) (fun hg3 => ?_)
    all_goals try (exfalso; first | omega | (simp only [Bool.false_eq_true, reduceCtorEq] at hg3; done) | (refine absurd hg3 ?_; with_reducible assumption) | (refine absurd ?_ hg3; with_reducible assumption))
    all_goals (
     first
       | (iterate 3 refine W_guard_no rfl rfl rfl ?_)
       | (iterate 3 refine W_guard_un rfl rfl ?_)
       | (refine W_guard_yes rfl ?_
          refine W_move rfl rfl ?_
          refine W_guard_yes rfl ?_
          refine W_move rfl rfl ?_
          refine W_guard_yes rfl ?_
          first
            | (refine W_eql_t rfl rfl ?_ rfl ?_; (focus (omega)))
            | (refine W_eql_f rfl rfl ?_ rfl ?_; (focus (omega)))
            | (refine W_eql rfl rfl rfl ?_))
     first
       | (refine W_pick_t rfl rfl rfl ?_)
       | (refine W_pick_f rfl rfl rfl ?_)
       | (refine W_pick_b rfl rfl rfl rfl ?_)
     refine W_assign rfl rfl ?_
     refine W_nil ?_
     refine N_then_k ?_
     refine K_ret ?_
     refine N_done1 (.inr rfl) rfl rfl ?_
     exact ⟨_, rfl, rfl, hp.nil⟩)))

set_option maxHeartbeats 400000 in
theorem awake_spec (w0 : World) (hg : ErrT w0) : PureAt Tryd.prog 7 [] (.bool true) w0 := by
  refine PureAt.intro go7 Tryd.func7 rfl rfl fun hp => ?_
  refine (fun (hk : ∀ w, Hp w0 [] [] w → K _ _ _ _ _ w) => hk w0 hp) fun w hp => ?_
  refine K_seq ?_
  refine K_region ?_
  refine W_assign rfl rfl ?_
  refine W_nil ?_
  refine N_then_k ?_
  refine K_seq ?_
  refine K_region ?_
  refine W_pcall hp rfl ((fparse_spec [67, 111, 110, 116, 101, 110, 116, 45, 76, 101, 110, 103, 116, 104, 58, 32, 32, 49, 50] (by decide)).eq (parV_ok (p := ([99, 111, 110, 116, 101, 110, 116, 45, 108, 101, 110, 103, 116, 104], [49, 50])) (by decide +kernel))) rfl ?_
  clear hp; intro w hp
  refine W_move rfl rfl ?_
  refine W_extract rfl rfl rfl ?_
  refine W_extract rfl rfl rfl ?_
  refine W_alloc hp zv24 rfl rfl ?_
  clear hp; intro b1 w hp
  first
    | (refine W_storeF (A := []) hp rfl sz24 rfl rfl rfl rfl ?_ ?_ ?_ rfl ?_; (focus first | exact Nat.le_of_ble_eq_true rfl | omega | (simp; omega)); (focus first | exact .inl (Nat.zero_le _) | omega); (focus first | (intro v hv; simp at hv; subst hv; rfl) | (simp [Value.oneCell']; done) | (simp [Value.oneCell', strV]; done)))
    | (refine W_storeF (A := [_]) hp rfl sz24 rfl rfl rfl rfl ?_ ?_ ?_ rfl ?_; (focus first | exact Nat.le_of_ble_eq_true rfl | omega | (simp; omega)); (focus first | exact .inl (Nat.zero_le _) | omega); (focus first | (intro v hv; simp at hv; subst hv; rfl) | (simp [Value.oneCell']; done) | (simp [Value.oneCell', strV]; done)))
    | (refine W_storeF (A := [_, _]) hp rfl sz24 rfl rfl rfl rfl ?_ ?_ ?_ rfl ?_; (focus first | exact Nat.le_of_ble_eq_true rfl | omega | (simp; omega)); (focus first | exact .inl (Nat.zero_le _) | omega); (focus first | (intro v hv; simp at hv; subst hv; rfl) | (simp [Value.oneCell']; done) | (simp [Value.oneCell', strV]; done)))
    | (refine W_storeF (A := [_, _, _]) hp rfl sz24 rfl rfl rfl rfl ?_ ?_ ?_ rfl ?_; (focus first | exact Nat.le_of_ble_eq_true rfl | omega | (simp; omega)); (focus first | exact .inl (Nat.zero_le _) | omega); (focus first | (intro v hv; simp at hv; subst hv; rfl) | (simp [Value.oneCell']; done) | (simp [Value.oneCell', strV]; done)))
    | (refine W_storeF (A := [_, _, _, _]) hp rfl sz24 rfl rfl rfl rfl ?_ ?_ ?_ rfl ?_; (focus first | exact Nat.le_of_ble_eq_true rfl | omega | (simp; omega)); (focus first | exact .inl (Nat.zero_le _) | omega); (focus first | (intro v hv; simp at hv; subst hv; rfl) | (simp [Value.oneCell']; done) | (simp [Value.oneCell', strV]; done)))
    | (refine W_storeF (A := [_, _, _, _, _]) hp rfl sz24 rfl rfl rfl rfl ?_ ?_ ?_ rfl ?_; (focus first | exact Nat.le_of_ble_eq_true rfl | omega | (simp; omega)); (focus first | exact .inl (Nat.zero_le _) | omega); (focus first | (intro v hv; simp at hv; subst hv; rfl) | (simp [Value.oneCell']; done) | (simp [Value.oneCell', strV]; done)))
    | (refine W_storeM (A := []) hp rfl sz24 rfl rfl rfl rfl ?_ ?_ ?_ rfl ?_; (focus first | exact Nat.le_of_ble_eq_true rfl | omega | (simp; omega)); (focus first | exact .inl (Nat.zero_le _) | omega); (focus first | (intro v hv; simp at hv; subst hv; rfl) | (simp [Value.oneCell']; done) | (simp [Value.oneCell', strV]; done)))
    | (refine W_storeM (A := [_]) hp rfl sz24 rfl rfl rfl rfl ?_ ?_ ?_ rfl ?_; (focus first | exact Nat.le_of_ble_eq_true rfl | omega | (simp; omega)); (focus first | exact .inl (Nat.zero_le _) | omega); (focus first | (intro v hv; simp at hv; subst hv; rfl) | (simp [Value.oneCell']; done) | (simp [Value.oneCell', strV]; done)))
    | (refine W_storeM (A := [_, _]) hp rfl sz24 rfl rfl rfl rfl ?_ ?_ ?_ rfl ?_; (focus first | exact Nat.le_of_ble_eq_true rfl | omega | (simp; omega)); (focus first | exact .inl (Nat.zero_le _) | omega); (focus first | (intro v hv; simp at hv; subst hv; rfl) | (simp [Value.oneCell']; done) | (simp [Value.oneCell', strV]; done)))
  clear hp; intro w hp
  simp only [List.nil_append, List.cons_append, List.append_nil, List.take_succ_cons, List.take_zero, List.drop_succ_cons, List.drop_zero, List.take_nil, List.drop_nil, Nat.zero_add, Nat.add_zero, Nat.reduceAdd, Int.reduceToNat, Int.toNat_natCast, Nat.reduceMul, Nat.mul_one, Nat.zero_mul] at hp
  refine W_assign rfl rfl ?_
  refine W_nil ?_
  refine N_then_k ?_
  refine K_seq ?_
  refine K_region ?_
  refine W_pcall hp rfl ((fparse_spec [72, 111, 115, 116, 32, 58, 32, 97] (by decide)).eq (parV_bad (n := 0) (by decide +kernel) (by decide))) rfl ?_
  clear hp; intro w hp
  refine W_move rfl rfl ?_
  refine W_extract rfl rfl rfl ?_
  refine W_extract rfl rfl rfl ?_
  refine W_alloc hp zv24 rfl rfl ?_
  clear hp; intro b3 w hp
  first
    | (refine W_storeF (A := []) hp rfl sz24 rfl rfl rfl rfl ?_ ?_ ?_ rfl ?_; (focus first | exact Nat.le_of_ble_eq_true rfl | omega | (simp; omega)); (focus first | exact .inl (Nat.zero_le _) | omega); (focus first | (intro v hv; simp at hv; subst hv; rfl) | (simp [Value.oneCell']; done) | (simp [Value.oneCell', strV]; done)))
    | (refine W_storeF (A := [_]) hp rfl sz24 rfl rfl rfl rfl ?_ ?_ ?_ rfl ?_; (focus first | exact Nat.le_of_ble_eq_true rfl | omega | (simp; omega)); (focus first | exact .inl (Nat.zero_le _) | omega); (focus first | (intro v hv; simp at hv; subst hv; rfl) | (simp [Value.oneCell']; done) | (simp [Value.oneCell', strV]; done)))
    | (refine W_storeF (A := [_, _]) hp rfl sz24 rfl rfl rfl rfl ?_ ?_ ?_ rfl ?_; (focus first | exact Nat.le_of_ble_eq_true rfl | omega | (simp; omega)); (focus first | exact .inl (Nat.zero_le _) | omega); (focus first | (intro v hv; simp at hv; subst hv; rfl) | (simp [Value.oneCell']; done) | (simp [Value.oneCell', strV]; done)))
    | (refine W_storeF (A := [_, _, _]) hp rfl sz24 rfl rfl rfl rfl ?_ ?_ ?_ rfl ?_; (focus first | exact Nat.le_of_ble_eq_true rfl | omega | (simp; omega)); (focus first | exact .inl (Nat.zero_le _) | omega); (focus first | (intro v hv; simp at hv; subst hv; rfl) | (simp [Value.oneCell']; done) | (simp [Value.oneCell', strV]; done)))
    | (refine W_storeF (A := [_, _, _, _]) hp rfl sz24 rfl rfl rfl rfl ?_ ?_ ?_ rfl ?_; (focus first | exact Nat.le_of_ble_eq_true rfl | omega | (simp; omega)); (focus first | exact .inl (Nat.zero_le _) | omega); (focus first | (intro v hv; simp at hv; subst hv; rfl) | (simp [Value.oneCell']; done) | (simp [Value.oneCell', strV]; done)))
    | (refine W_storeF (A := [_, _, _, _, _]) hp rfl sz24 rfl rfl rfl rfl ?_ ?_ ?_ rfl ?_; (focus first | exact Nat.le_of_ble_eq_true rfl | omega | (simp; omega)); (focus first | exact .inl (Nat.zero_le _) | omega); (focus first | (intro v hv; simp at hv; subst hv; rfl) | (simp [Value.oneCell']; done) | (simp [Value.oneCell', strV]; done)))
    | (refine W_storeM (A := []) hp rfl sz24 rfl rfl rfl rfl ?_ ?_ ?_ rfl ?_; (focus first | exact Nat.le_of_ble_eq_true rfl | omega | (simp; omega)); (focus first | exact .inl (Nat.zero_le _) | omega); (focus first | (intro v hv; simp at hv; subst hv; rfl) | (simp [Value.oneCell']; done) | (simp [Value.oneCell', strV]; done)))
    | (refine W_storeM (A := [_]) hp rfl sz24 rfl rfl rfl rfl ?_ ?_ ?_ rfl ?_; (focus first | exact Nat.le_of_ble_eq_true rfl | omega | (simp; omega)); (focus first | exact .inl (Nat.zero_le _) | omega); (focus first | (intro v hv; simp at hv; subst hv; rfl) | (simp [Value.oneCell']; done) | (simp [Value.oneCell', strV]; done)))
    | (refine W_storeM (A := [_, _]) hp rfl sz24 rfl rfl rfl rfl ?_ ?_ ?_ rfl ?_; (focus first | exact Nat.le_of_ble_eq_true rfl | omega | (simp; omega)); (focus first | exact .inl (Nat.zero_le _) | omega); (focus first | (intro v hv; simp at hv; subst hv; rfl) | (simp [Value.oneCell']; done) | (simp [Value.oneCell', strV]; done)))
  clear hp; intro w hp
  simp only [List.nil_append, List.cons_append, List.append_nil, List.take_succ_cons, List.take_zero, List.drop_succ_cons, List.drop_zero, List.take_nil, List.drop_nil, Nat.zero_add, Nat.add_zero, Nat.reduceAdd, Int.reduceToNat, Int.toNat_natCast, Nat.reduceMul, Nat.mul_one, Nat.zero_mul] at hp
  refine W_assign rfl rfl ?_
  refine W_nil ?_
  refine N_then_k ?_
  refine K_seq ?_
  refine K_region ?_
  refine W_bslice2 hp Tryd.underlying36 sz9 zv9 rfl rfl  rfl rfl  (fun v0 v1 => [v0, v1]) rfl rfl rfl ?_
  clear hp; intro b19 w hp
  refine W_bcall hp rfl ((fall_spec w [[97, 58, 32, 98], [99, 58, 32, 100]] _ _ (Rd.own hp List.mem_cons_self (List.prefix_refl _)) 1 (by decide) (by decide) (by decide))) rfl ?_
  clear hp; intro v20 G20 w r20 hp
  obtain ⟨A20, c20, rfl⟩ := allR_bad (st := 431) (at_ := 1) r20 (allF_many (by decide)) (by decide)
  replace hp := hp.drop (List.sublist_append_right _ _)
  refine W_move rfl rfl ?_
  refine W_extract rfl rfl rfl ?_
  refine W_extract rfl rfl rfl ?_
  refine W_assign rfl rfl ?_
  refine W_assign rfl rfl ?_
  refine W_nil ?_
  refine N_then_k ?_
  refine K_seq ?_
  refine K_region ?_
  refine W_build2 rfl rfl  (fun v0 v1 => [v0, v1]) (by kernel_rfl) rfl ?_
  refine W_bslice1 hp Tryd.underlying34 sz24 zv24 rfl  rfl  (fun v0 => v0.cells.toList) rfl rfl rfl ?_
  clear hp; intro b25 w hp
  try simp only [Value.cells, List.toList_toArray, List.cons_append, List.nil_append, List.append_nil] at hp
  refine W_acall hp rfl (((one_spec w [([72, 111, 115, 116], [104])] _ _ (Rd.own hp List.mem_cons_self (List.prefix_refl _)) [104, 79, 83, 84] (by decide) (by decide) (by decide)).eq (r' := .tuple #[.string ⟨([104] : List UInt8).toArray⟩, .bool true, .nilIface]) (show oneV (valuesF [([72, 111, 115, 116], [104])] (lower [104, 79, 83, 84])) = oneV [[104]] from congrArg oneV (by decide +kernel)))) rfl ?_
  clear hp; intro w hp
  refine W_move rfl rfl ?_
  refine W_extract rfl rfl rfl ?_
  refine W_extract rfl rfl rfl ?_
  refine W_extract rfl rfl rfl ?_
  refine W_assign rfl rfl ?_
  refine W_assign rfl rfl ?_
  refine W_assign rfl rfl ?_
  refine W_nil ?_
  refine N_then_k ?_
  refine K_seq ?_
  refine K_region ?_
  refine W_load_own Tryd.underlying24 rfl sz24 rfl hp (by first | exact List.mem_cons_self | exact .tail _ (.head _) | exact .tail _ (.tail _ (.head _)) | exact .tail _ (.tail _ (.tail _ (.head _))) | exact .tail _ (.tail _ (.tail _ (.tail _ (.head _)))) | exact .tail _ (.tail _ (.tail _ (.tail _ (.tail _ (.head _))))) | exact List.mem_append_right _ (.head _) | exact List.mem_append_right _ (.tail _ (.head _)) | exact List.mem_append_right _ (.tail _ (.tail _ (.head _))) | exact .tail _ (List.mem_append_right _ (.head _)) | exact .tail _ (List.mem_append_right _ (.tail _ (.head _)))) rfl rfl rfl ?_
  refine W_build2 rfl rfl  (fun v0 v1 => [v0, v1]) (by kernel_rfl) rfl ?_
  refine W_aeql_t (by kernel_rfl) rfl rfl ?_ ?_ rfl ?_
  (focus (first | rfl | assumption))
  (focus (first | rfl | kernel_rfl))
  refine W_move rfl rfl ?_
  first
    | refine W_guard_lit_t rfl ?_
    | refine W_guard_lit_f rfl ?_
    | refine W_guard_lit_u rfl ?_
    | refine W_guard_split_d rfl rfl rfl (fun hg1 => ?_) (fun hg1 => ?_)
    | refine W_guard_split_n rfl rfl rfl (fun hg1 => ?_) (fun hg1 => ?_)
    | refine W_guard_split_nb rfl rfl rfl (fun hg1 => ?_) (fun hg1 => ?_)
    | refine W_guard_split rfl rfl rfl (fun hg1 => ?_) (fun hg1 => ?_)
  all_goals try (exfalso; first | omega | (simp only [Bool.false_eq_true, reduceCtorEq] at hg1; done) | (refine absurd hg1 ?_; with_reducible assumption) | (refine absurd ?_ hg1; with_reducible assumption))
  all_goals (
   first
     | (iterate 2 refine W_guard_no rfl rfl rfl ?_)
     | (iterate 2 refine W_guard_un rfl rfl ?_)
     | (refine W_guard_yes rfl ?_
        refine W_move rfl rfl ?_
        refine W_guard_yes rfl ?_
        first
          | (refine W_val rfl (inb_of rfl) (R_bin (a := .nilIface) (v := .bool true) rfl rfl (by kernel_rfl)) ?_)
          | (refine W_val rfl (inb_of rfl) (R_bin (v := .bool false) rfl rfl (by kernel_rfl)) ?_))
   first
     | (refine W_pick_t rfl rfl rfl ?_)
     | (refine W_pick_f rfl rfl rfl ?_)
     | (refine W_pick_b rfl rfl rfl rfl ?_)
   refine W_move rfl rfl ?_
   first
     | refine W_guard_lit_t rfl ?_
     | refine W_guard_lit_f rfl ?_
     | refine W_guard_lit_u rfl ?_
     | refine W_guard_split_d rfl rfl rfl (fun hg2 => ?_) (fun hg2 => ?_)
     | refine W_guard_split_n rfl rfl rfl (fun hg2 => ?_) (fun hg2 => ?_)
     | refine W_guard_split_nb rfl rfl rfl (fun hg2 => ?_) (fun hg2 => ?_)
     | refine W_guard_split rfl rfl rfl (fun hg2 => ?_) (fun hg2 => ?_)
   all_goals try (exfalso; first | omega | (simp only [Bool.false_eq_true, reduceCtorEq] at hg2; done) | (refine absurd hg2 ?_; with_reducible assumption) | (refine absurd ?_ hg2; with_reducible assumption))
   all_goals (
    first
      | (iterate 2 refine W_guard_no rfl rfl rfl ?_)
      | (iterate 2 refine W_guard_un rfl rfl ?_)
      | (refine W_guard_yes rfl ?_
         refine W_move rfl rfl ?_
         refine W_guard_yes rfl ?_
         refine W_acall hp rfl ((wrong_spec w (hg.keep hp) 400 0)) rfl ?_
         clear hp; intro w hp)
    first
      | (refine W_pick_t rfl rfl rfl ?_)
      | (refine W_pick_f rfl rfl rfl ?_)
      | (refine W_pick_b rfl rfl rfl rfl ?_)
    refine W_move rfl rfl ?_
    first
      | refine W_guard_lit_t rfl ?_
      | refine W_guard_lit_f rfl ?_
      | refine W_guard_lit_u rfl ?_
      | refine W_guard_split_d rfl rfl rfl (fun hg3 => ?_) (fun hg3 => ?_)
      | refine W_guard_split_n rfl rfl rfl (fun hg3 => ?_) (fun hg3 => ?_)
      | refine W_guard_split_nb rfl rfl rfl (fun hg3 => ?_) (fun hg3 => ?_)
      | refine W_guard_split rfl rfl rfl (fun hg3 => ?_) (fun hg3 => ?_)
    all_goals try (exfalso; first | omega | (simp only [Bool.false_eq_true, reduceCtorEq] at hg3; done) | (refine absurd hg3 ?_; with_reducible assumption) | (refine absurd ?_ hg3; with_reducible assumption))
    all_goals (
     first
       | (iterate 3 refine W_guard_no rfl rfl rfl ?_)
       | (iterate 3 refine W_guard_un rfl rfl ?_)
       | (refine W_guard_yes rfl ?_
          refine W_load_own Tryd.underlying24 rfl sz24 rfl hp (by first | exact List.mem_cons_self | exact .tail _ (.head _) | exact .tail _ (.tail _ (.head _)) | exact .tail _ (.tail _ (.tail _ (.head _))) | exact .tail _ (.tail _ (.tail _ (.tail _ (.head _)))) | exact .tail _ (.tail _ (.tail _ (.tail _ (.tail _ (.head _))))) | exact List.mem_append_right _ (.head _) | exact List.mem_append_right _ (.tail _ (.head _)) | exact List.mem_append_right _ (.tail _ (.tail _ (.head _))) | exact .tail _ (List.mem_append_right _ (.head _)) | exact .tail _ (List.mem_append_right _ (.tail _ (.head _)))) rfl rfl rfl ?_
          refine W_guard_yes rfl ?_
          refine W_pcall hp rfl (ftext_spec ([99, 111, 110, 116, 101, 110, 116, 45, 108, 101, 110, 103, 116, 104], [49, 50]) (by decide) (by decide)) rfl ?_
          clear hp; intro w hp
          refine W_guard_yes rfl ?_
          first
            | (refine W_seql_t rfl rfl ?_ rfl ?_; (focus (first | rfl | assumption)))
            | (refine W_seql_f rfl rfl ?_ rfl ?_; (focus (first | assumption | decide | exact List.cons_ne_nil _ _)))
            | (refine W_seql rfl rfl rfl ?_))
     first
       | (refine W_pick_t rfl rfl rfl ?_)
       | (refine W_pick_f rfl rfl rfl ?_)
       | (refine W_pick_b rfl rfl rfl rfl ?_)
     refine W_move rfl rfl ?_
     first
       | refine W_guard_lit_t rfl ?_
       | refine W_guard_lit_f rfl ?_
       | refine W_guard_lit_u rfl ?_
       | refine W_guard_split_d rfl rfl rfl (fun hg4 => ?_) (fun hg4 => ?_)
       | refine W_guard_split_n rfl rfl rfl (fun hg4 => ?_) (fun hg4 => ?_)
       | refine W_guard_split_nb rfl rfl rfl (fun hg4 => ?_) (fun hg4 => ?_)
       | refine W_guard_split rfl rfl rfl (fun hg4 => ?_) (fun hg4 => ?_)
     all_goals try (exfalso; first | omega | (simp only [Bool.false_eq_true, reduceCtorEq] at hg4; done) | (refine absurd hg4 ?_; with_reducible assumption) | (refine absurd ?_ hg4; with_reducible assumption))
     all_goals (
      first
        | (iterate 2 refine W_guard_no rfl rfl rfl ?_)
        | (iterate 2 refine W_guard_un rfl rfl ?_)
        | (refine W_guard_yes rfl ?_
           refine W_move rfl rfl ?_
           refine W_guard_yes rfl ?_
           refine W_acall hp rfl ((wrong_spec w (hg.keep hp) 431 1)) rfl ?_
           clear hp; intro w hp)
      first
        | (refine W_pick_t rfl rfl rfl ?_)
        | (refine W_pick_f rfl rfl rfl ?_)
        | (refine W_pick_b rfl rfl rfl rfl ?_)
      refine W_move rfl rfl ?_
      first
        | refine W_guard_lit_t rfl ?_
        | refine W_guard_lit_f rfl ?_
        | refine W_guard_lit_u rfl ?_
        | refine W_guard_split_d rfl rfl rfl (fun hg5 => ?_) (fun hg5 => ?_)
        | refine W_guard_split_n rfl rfl rfl (fun hg5 => ?_) (fun hg5 => ?_)
        | refine W_guard_split_nb rfl rfl rfl (fun hg5 => ?_) (fun hg5 => ?_)
        | refine W_guard_split rfl rfl rfl (fun hg5 => ?_) (fun hg5 => ?_)
      all_goals try (exfalso; first | omega | (simp only [Bool.false_eq_true, reduceCtorEq] at hg5; done) | (refine absurd hg5 ?_; with_reducible assumption) | (refine absurd ?_ hg5; with_reducible assumption))
      all_goals (
       first
         | (iterate 2 refine W_guard_no rfl rfl rfl ?_)
         | (iterate 2 refine W_guard_un rfl rfl ?_)
         | (refine W_guard_yes rfl ?_
            refine W_move rfl rfl ?_
            refine W_guard_yes rfl ?_
            first
              | (refine W_seql_t rfl rfl ?_ rfl ?_; (focus (first | rfl | assumption)))
              | (refine W_seql_f rfl rfl ?_ rfl ?_; (focus (first | assumption | decide | exact List.cons_ne_nil _ _)))
              | (refine W_seql rfl rfl rfl ?_))
       first
         | (refine W_pick_t rfl rfl rfl ?_)
         | (refine W_pick_f rfl rfl rfl ?_)
         | (refine W_pick_b rfl rfl rfl rfl ?_)
       refine W_move rfl rfl ?_
       first
         | refine W_guard_lit_t rfl ?_
         | refine W_guard_lit_f rfl ?_
         | refine W_guard_lit_u rfl ?_
         | refine W_guard_split_d rfl rfl rfl (fun hg6 => ?_) (fun hg6 => ?_)
         | refine W_guard_split_n rfl rfl rfl (fun hg6 => ?_) (fun hg6 => ?_)
         | refine W_guard_split_nb rfl rfl rfl (fun hg6 => ?_) (fun hg6 => ?_)
         | refine W_guard_split rfl rfl rfl (fun hg6 => ?_) (fun hg6 => ?_)
       all_goals try (exfalso; first | omega | (simp only [Bool.false_eq_true, reduceCtorEq] at hg6; done) | (refine absurd hg6 ?_; with_reducible assumption) | (refine absurd ?_ hg6; with_reducible assumption))
       all_goals (
        first
          | (refine W_guard_no rfl rfl rfl ?_)
          | (refine W_guard_un rfl rfl ?_)
          | (refine W_guard_yes rfl ?_
             refine W_move rfl rfl ?_)
        first
          | (refine W_pick_t rfl rfl rfl ?_)
          | (refine W_pick_f rfl rfl rfl ?_)
          | (refine W_pick_b rfl rfl rfl rfl ?_)
        refine W_move rfl rfl ?_
        first
          | refine W_guard_lit_t rfl ?_
          | refine W_guard_lit_f rfl ?_
          | refine W_guard_lit_u rfl ?_
          | refine W_guard_split_d rfl rfl rfl (fun hg7 => ?_) (fun hg7 => ?_)
          | refine W_guard_split_n rfl rfl rfl (fun hg7 => ?_) (fun hg7 => ?_)
          | refine W_guard_split_nb rfl rfl rfl (fun hg7 => ?_) (fun hg7 => ?_)
          | refine W_guard_split rfl rfl rfl (fun hg7 => ?_) (fun hg7 => ?_)
        all_goals try (exfalso; first | omega | (simp only [Bool.false_eq_true, reduceCtorEq] at hg7; done) | (refine absurd hg7 ?_; with_reducible assumption) | (refine absurd ?_ hg7; with_reducible assumption))
        all_goals (
         first
           | (iterate 2 refine W_guard_no rfl rfl rfl ?_)
           | (iterate 2 refine W_guard_un rfl rfl ?_)
           | (refine W_guard_yes rfl ?_
              refine W_move rfl rfl ?_
              refine W_guard_yes rfl ?_
              first
                | (refine W_val rfl (inb_of rfl) (R_bin (a := .nilIface) (v := .bool true) rfl rfl (by kernel_rfl)) ?_)
                | (refine W_val rfl (inb_of rfl) (R_bin (v := .bool false) rfl rfl (by kernel_rfl)) ?_))
         first
           | (refine W_pick_t rfl rfl rfl ?_)
           | (refine W_pick_f rfl rfl rfl ?_)
           | (refine W_pick_b rfl rfl rfl rfl ?_)
         refine W_move rfl rfl ?_
         first
           | refine W_guard_lit_t rfl ?_
           | refine W_guard_lit_f rfl ?_
           | refine W_guard_lit_u rfl ?_
           | refine W_guard_split_d rfl rfl rfl (fun hg8 => ?_) (fun hg8 => ?_)
           | refine W_guard_split_n rfl rfl rfl (fun hg8 => ?_) (fun hg8 => ?_)
           | refine W_guard_split_nb rfl rfl rfl (fun hg8 => ?_) (fun hg8 => ?_)
           | refine W_guard_split rfl rfl rfl (fun hg8 => ?_) (fun hg8 => ?_)
         all_goals try (exfalso; first | omega | (simp only [Bool.false_eq_true, reduceCtorEq] at hg8; done) | (refine absurd hg8 ?_; with_reducible assumption) | (refine absurd ?_ hg8; with_reducible assumption))
         all_goals (
          first
            | (iterate 3 refine W_guard_no rfl rfl rfl ?_)
            | (iterate 3 refine W_guard_un rfl rfl ?_)
            | (refine W_guard_yes rfl ?_
               refine W_bcall hp rfl ((values_spec w [] _ _ (Rd.nil _) [97] (by decide) (by simp) (by decide))) rfl ?_
               clear hp; intro v62 G62 w r62 hp
               obtain ⟨A62, c62, rfl⟩ := r62.form
               refine W_guard_yes rfl ?_
               refine W_len_sl Tryd.underlying36 rfl rfl ?_
               refine W_guard_yes rfl ?_
               first
                 | (refine W_eql_t rfl rfl ?_ rfl ?_; (focus (omega)))
                 | (refine W_eql_f rfl rfl ?_ rfl ?_; (focus (omega)))
                 | (refine W_eql rfl rfl rfl ?_))
          first
            | (refine W_pick_t rfl rfl rfl ?_)
            | (refine W_pick_f rfl rfl rfl ?_)
            | (refine W_pick_b rfl rfl rfl rfl ?_)
          refine W_assign rfl rfl ?_
          refine W_nil ?_
          refine N_then_k ?_
          refine K_ret ?_
          refine N_done1 (.inr rfl) rfl rfl ?_
          exact ⟨_, rfl, rfl, hp.nil⟩))))))))

set_option maxHeartbeats 600000 in
theorem FieldParses_walk (w0 : World) (hg : ErrT w0) (s : List UInt8) : PureAt Tryd.prog 3 [.string ⟨s.toArray⟩] (.bool true) w0 := by
  refine PureAt.intro go3 Tryd.func3 rfl rfl fun hp => ?_
  refine (fun (hk : ∀ w, Hp w0 [] [] w → K _ _ _ _ _ w) => hk w0 hp) fun w hp => ?_
  refine K_seq ?_
  refine K_region ?_
  refine W_assign rfl rfl ?_
  refine W_nil ?_
  refine N_then_k ?_
  refine K_seq ?_
  refine K_seq ?_
  refine K_region ?_
  refine W_acall hp rfl ((awake_spec w (hg.keep hp))) rfl ?_
  clear hp; intro w hp
  first
    | (refine W_not_t rfl rfl ?_)
    | (refine W_not_f rfl rfl ?_)
    | (refine W_not rfl rfl ?_)
  refine W_move rfl rfl ?_
  first
    | refine W_guard_lit_t rfl ?_
    | refine W_guard_lit_f rfl ?_
    | refine W_guard_lit_u rfl ?_
    | refine W_guard_split_d rfl rfl rfl (fun hg1 => ?_) (fun hg1 => ?_)
    | refine W_guard_split_n rfl rfl rfl (fun hg1 => ?_) (fun hg1 => ?_)
    | refine W_guard_split_nb rfl rfl rfl (fun hg1 => ?_) (fun hg1 => ?_)
    | refine W_guard_split rfl rfl rfl (fun hg1 => ?_) (fun hg1 => ?_)
  all_goals try (exfalso; first | omega | (simp only [Bool.false_eq_true, reduceCtorEq] at hg1; done) | (refine absurd hg1 ?_; with_reducible assumption) | (refine absurd ?_ hg1; with_reducible assumption))
  all_goals (
   first
     | (iterate 3 refine W_guard_no rfl rfl rfl ?_)
     | (iterate 3 refine W_guard_un rfl rfl ?_)
     | (refine W_guard_yes rfl ?_
        refine W_move rfl rfl ?_
        refine W_guard_yes rfl ?_
        refine W_len_s Tryd.underlying9 rfl rfl ?_
        refine W_guard_yes rfl ?_
        first
          | (refine W_gtr_t rfl rfl ?_ rfl ?_; (focus (omega)))
          | (refine W_gtr_f rfl rfl ?_ rfl ?_; (focus (omega)))
          | (refine W_gtr rfl rfl rfl ?_))
   first
     | (refine W_pick_t rfl rfl rfl ?_)
     | (refine W_pick_f rfl rfl rfl ?_)
     | (refine W_pick_b rfl rfl rfl rfl ?_)
   refine W_nil ?_
   refine N_then_k ?_
   first
     | refine K_cond_d rfl (fun hc2 => ?_) (fun hc2 => ?_)
     | refine K_cond_n rfl (fun hc2 => ?_) (fun hc2 => ?_)
     | refine K_cond_nb rfl (fun hc2 => ?_) (fun hc2 => ?_)
     | refine K_cond_t rfl (fun hc2 => ?_) (fun hc2 => ?_)
   · try (exfalso; first | omega | (simp only [Bool.false_eq_true, reduceCtorEq] at hc2; done) | (refine absurd hc2 ?_; with_reducible assumption) | (refine absurd ?_ hc2; with_reducible assumption))
     all_goals (
      refine K_seq ?_
      refine K_region ?_
      refine W_acall hp rfl ((awake_spec w (hg.keep hp))) rfl ?_
      clear hp; intro w hp
      refine W_assign rfl rfl ?_
      refine W_nil ?_
      refine N_then_k ?_
      refine K_ret ?_
      refine N_then_ret ?_
      refine N_done1 (.inr rfl) rfl rfl ?_
      exact ⟨_, rfl, rfl, hp.nil⟩)
   · try (exfalso; first | omega | (simp only [Bool.false_eq_true, reduceCtorEq] at hc2; done) | (refine absurd hc2 ?_; with_reducible assumption) | (refine absurd ?_ hc2; with_reducible assumption))
     all_goals (
      refine K_skip ?_
      refine N_then_k ?_
      refine K_seq ?_
      refine K_region ?_
      rcases pf_two s with ⟨p, hD⟩ | ⟨n, hD, hnl⟩
      all_goals first | (have hpl := pf_len hD; have hag := parse_text hD) | skip
      all_goals (
       refine W_move rfl rfl ?_
       first
         | (refine W_pcall hp rfl ((fparse_spec s (by omega)).eq (parV_ok hD)) rfl ?_)
         | (refine W_pcall hp rfl ((fparse_spec s (by omega)).eq (parV_bad hD (by omega))) rfl ?_)
       clear hp; intro w hp
       refine W_move rfl rfl ?_
       refine W_extract rfl rfl rfl ?_
       refine W_extract rfl rfl rfl ?_
       refine W_alloc hp zv24 rfl rfl ?_
       clear hp; intro b3 w hp
       first
         | (refine W_storeF (A := []) hp rfl sz24 rfl rfl rfl rfl ?_ ?_ ?_ rfl ?_; (focus first | exact Nat.le_of_ble_eq_true rfl | omega | (simp; omega)); (focus first | exact .inl (Nat.zero_le _) | omega); (focus first | (intro v hv; simp at hv; subst hv; rfl) | (simp [Value.oneCell']; done) | (simp [Value.oneCell', strV]; done)))
         | (refine W_storeF (A := [_]) hp rfl sz24 rfl rfl rfl rfl ?_ ?_ ?_ rfl ?_; (focus first | exact Nat.le_of_ble_eq_true rfl | omega | (simp; omega)); (focus first | exact .inl (Nat.zero_le _) | omega); (focus first | (intro v hv; simp at hv; subst hv; rfl) | (simp [Value.oneCell']; done) | (simp [Value.oneCell', strV]; done)))
         | (refine W_storeF (A := [_, _]) hp rfl sz24 rfl rfl rfl rfl ?_ ?_ ?_ rfl ?_; (focus first | exact Nat.le_of_ble_eq_true rfl | omega | (simp; omega)); (focus first | exact .inl (Nat.zero_le _) | omega); (focus first | (intro v hv; simp at hv; subst hv; rfl) | (simp [Value.oneCell']; done) | (simp [Value.oneCell', strV]; done)))
         | (refine W_storeF (A := [_, _, _]) hp rfl sz24 rfl rfl rfl rfl ?_ ?_ ?_ rfl ?_; (focus first | exact Nat.le_of_ble_eq_true rfl | omega | (simp; omega)); (focus first | exact .inl (Nat.zero_le _) | omega); (focus first | (intro v hv; simp at hv; subst hv; rfl) | (simp [Value.oneCell']; done) | (simp [Value.oneCell', strV]; done)))
         | (refine W_storeF (A := [_, _, _, _]) hp rfl sz24 rfl rfl rfl rfl ?_ ?_ ?_ rfl ?_; (focus first | exact Nat.le_of_ble_eq_true rfl | omega | (simp; omega)); (focus first | exact .inl (Nat.zero_le _) | omega); (focus first | (intro v hv; simp at hv; subst hv; rfl) | (simp [Value.oneCell']; done) | (simp [Value.oneCell', strV]; done)))
         | (refine W_storeF (A := [_, _, _, _, _]) hp rfl sz24 rfl rfl rfl rfl ?_ ?_ ?_ rfl ?_; (focus first | exact Nat.le_of_ble_eq_true rfl | omega | (simp; omega)); (focus first | exact .inl (Nat.zero_le _) | omega); (focus first | (intro v hv; simp at hv; subst hv; rfl) | (simp [Value.oneCell']; done) | (simp [Value.oneCell', strV]; done)))
         | (refine W_storeM (A := []) hp rfl sz24 rfl rfl rfl rfl ?_ ?_ ?_ rfl ?_; (focus first | exact Nat.le_of_ble_eq_true rfl | omega | (simp; omega)); (focus first | exact .inl (Nat.zero_le _) | omega); (focus first | (intro v hv; simp at hv; subst hv; rfl) | (simp [Value.oneCell']; done) | (simp [Value.oneCell', strV]; done)))
         | (refine W_storeM (A := [_]) hp rfl sz24 rfl rfl rfl rfl ?_ ?_ ?_ rfl ?_; (focus first | exact Nat.le_of_ble_eq_true rfl | omega | (simp; omega)); (focus first | exact .inl (Nat.zero_le _) | omega); (focus first | (intro v hv; simp at hv; subst hv; rfl) | (simp [Value.oneCell']; done) | (simp [Value.oneCell', strV]; done)))
         | (refine W_storeM (A := [_, _]) hp rfl sz24 rfl rfl rfl rfl ?_ ?_ ?_ rfl ?_; (focus first | exact Nat.le_of_ble_eq_true rfl | omega | (simp; omega)); (focus first | exact .inl (Nat.zero_le _) | omega); (focus first | (intro v hv; simp at hv; subst hv; rfl) | (simp [Value.oneCell']; done) | (simp [Value.oneCell', strV]; done)))
       clear hp; intro w hp
       simp only [List.nil_append, List.cons_append, List.append_nil, List.take_succ_cons, List.take_zero, List.drop_succ_cons, List.drop_zero, List.take_nil, List.drop_nil, Nat.zero_add, Nat.add_zero, Nat.reduceAdd, Int.reduceToNat, Int.toNat_natCast, Nat.reduceMul, Nat.mul_one, Nat.zero_mul] at hp
       refine W_assign rfl rfl ?_
       refine W_nil ?_
       refine N_then_k ?_
       refine K_seq ?_
       refine K_region ?_
       refine W_move rfl rfl ?_
       refine W_pcall hp rfl (rfparse_spec s (by omega)) rfl ?_
       clear hp; intro w hp
       rw [hD]
       refine W_move rfl rfl ?_
       refine W_extract rfl rfl rfl ?_
       refine W_extract rfl rfl rfl ?_
       refine W_alloc hp zv24 rfl rfl ?_
       clear hp; intro b5 w hp
       first
         | (refine W_storeF (A := []) hp rfl sz24 rfl rfl rfl rfl ?_ ?_ ?_ rfl ?_; (focus first | exact Nat.le_of_ble_eq_true rfl | omega | (simp; omega)); (focus first | exact .inl (Nat.zero_le _) | omega); (focus first | (intro v hv; simp at hv; subst hv; rfl) | (simp [Value.oneCell']; done) | (simp [Value.oneCell', strV]; done)))
         | (refine W_storeF (A := [_]) hp rfl sz24 rfl rfl rfl rfl ?_ ?_ ?_ rfl ?_; (focus first | exact Nat.le_of_ble_eq_true rfl | omega | (simp; omega)); (focus first | exact .inl (Nat.zero_le _) | omega); (focus first | (intro v hv; simp at hv; subst hv; rfl) | (simp [Value.oneCell']; done) | (simp [Value.oneCell', strV]; done)))
         | (refine W_storeF (A := [_, _]) hp rfl sz24 rfl rfl rfl rfl ?_ ?_ ?_ rfl ?_; (focus first | exact Nat.le_of_ble_eq_true rfl | omega | (simp; omega)); (focus first | exact .inl (Nat.zero_le _) | omega); (focus first | (intro v hv; simp at hv; subst hv; rfl) | (simp [Value.oneCell']; done) | (simp [Value.oneCell', strV]; done)))
         | (refine W_storeF (A := [_, _, _]) hp rfl sz24 rfl rfl rfl rfl ?_ ?_ ?_ rfl ?_; (focus first | exact Nat.le_of_ble_eq_true rfl | omega | (simp; omega)); (focus first | exact .inl (Nat.zero_le _) | omega); (focus first | (intro v hv; simp at hv; subst hv; rfl) | (simp [Value.oneCell']; done) | (simp [Value.oneCell', strV]; done)))
         | (refine W_storeF (A := [_, _, _, _]) hp rfl sz24 rfl rfl rfl rfl ?_ ?_ ?_ rfl ?_; (focus first | exact Nat.le_of_ble_eq_true rfl | omega | (simp; omega)); (focus first | exact .inl (Nat.zero_le _) | omega); (focus first | (intro v hv; simp at hv; subst hv; rfl) | (simp [Value.oneCell']; done) | (simp [Value.oneCell', strV]; done)))
         | (refine W_storeF (A := [_, _, _, _, _]) hp rfl sz24 rfl rfl rfl rfl ?_ ?_ ?_ rfl ?_; (focus first | exact Nat.le_of_ble_eq_true rfl | omega | (simp; omega)); (focus first | exact .inl (Nat.zero_le _) | omega); (focus first | (intro v hv; simp at hv; subst hv; rfl) | (simp [Value.oneCell']; done) | (simp [Value.oneCell', strV]; done)))
         | (refine W_storeM (A := []) hp rfl sz24 rfl rfl rfl rfl ?_ ?_ ?_ rfl ?_; (focus first | exact Nat.le_of_ble_eq_true rfl | omega | (simp; omega)); (focus first | exact .inl (Nat.zero_le _) | omega); (focus first | (intro v hv; simp at hv; subst hv; rfl) | (simp [Value.oneCell']; done) | (simp [Value.oneCell', strV]; done)))
         | (refine W_storeM (A := [_]) hp rfl sz24 rfl rfl rfl rfl ?_ ?_ ?_ rfl ?_; (focus first | exact Nat.le_of_ble_eq_true rfl | omega | (simp; omega)); (focus first | exact .inl (Nat.zero_le _) | omega); (focus first | (intro v hv; simp at hv; subst hv; rfl) | (simp [Value.oneCell']; done) | (simp [Value.oneCell', strV]; done)))
         | (refine W_storeM (A := [_, _]) hp rfl sz24 rfl rfl rfl rfl ?_ ?_ ?_ rfl ?_; (focus first | exact Nat.le_of_ble_eq_true rfl | omega | (simp; omega)); (focus first | exact .inl (Nat.zero_le _) | omega); (focus first | (intro v hv; simp at hv; subst hv; rfl) | (simp [Value.oneCell']; done) | (simp [Value.oneCell', strV]; done)))
       clear hp; intro w hp
       simp only [List.nil_append, List.cons_append, List.append_nil, List.take_succ_cons, List.take_zero, List.drop_succ_cons, List.drop_zero, List.take_nil, List.drop_nil, Nat.zero_add, Nat.add_zero, Nat.reduceAdd, Int.reduceToNat, Int.toNat_natCast, Nat.reduceMul, Nat.mul_one, Nat.zero_mul] at hp
       refine W_assign rfl rfl ?_
       refine W_nil ?_
       refine N_then_k ?_
       refine K_seq ?_
       refine K_seq ?_
       refine K_region ?_
       refine W_move rfl rfl ?_
       first
         | (refine W_geq_t rfl rfl ?_ rfl ?_; (focus (omega)))
         | (refine W_geq_f rfl rfl ?_ rfl ?_; (focus (omega)))
         | (refine W_geq rfl rfl rfl ?_)
       refine W_nil ?_
       refine N_then_k ?_
       first
         | refine K_cond_d rfl (fun hc3 => ?_) (fun hc3 => ?_)
         | refine K_cond_n rfl (fun hc3 => ?_) (fun hc3 => ?_)
         | refine K_cond_nb rfl (fun hc3 => ?_) (fun hc3 => ?_)
         | refine K_cond_t rfl (fun hc3 => ?_) (fun hc3 => ?_)
       · try (exfalso; first | omega | (simp only [Bool.false_eq_true, reduceCtorEq] at hc3; done) | (refine absurd hc3 ?_; with_reducible assumption) | (refine absurd ?_ hc3; with_reducible assumption))
         all_goals (
          refine K_seq ?_
          refine K_region ?_
          refine W_load_own Tryd.underlying24 rfl sz24 rfl hp (by first | exact List.mem_cons_self | exact .tail _ (.head _) | exact .tail _ (.tail _ (.head _)) | exact .tail _ (.tail _ (.tail _ (.head _))) | exact .tail _ (.tail _ (.tail _ (.tail _ (.head _)))) | exact .tail _ (.tail _ (.tail _ (.tail _ (.tail _ (.head _))))) | exact List.mem_append_right _ (.head _) | exact List.mem_append_right _ (.tail _ (.head _)) | exact List.mem_append_right _ (.tail _ (.tail _ (.head _))) | exact .tail _ (List.mem_append_right _ (.head _)) | exact .tail _ (List.mem_append_right _ (.tail _ (.head _)))) rfl rfl rfl ?_
          refine W_build0  ([(.string ⟨#[]⟩), (.string ⟨#[]⟩)]) (by kernel_rfl) rfl ?_
          refine W_aeql_t (by kernel_rfl) rfl rfl ?_ ?_ rfl ?_
          (focus (first | rfl | assumption))
          (focus (first | rfl | kernel_rfl))
          refine W_move rfl rfl ?_
          first
            | refine W_guard_lit_t rfl ?_
            | refine W_guard_lit_f rfl ?_
            | refine W_guard_lit_u rfl ?_
            | refine W_guard_split_d rfl rfl rfl (fun hg4 => ?_) (fun hg4 => ?_)
            | refine W_guard_split_n rfl rfl rfl (fun hg4 => ?_) (fun hg4 => ?_)
            | refine W_guard_split_nb rfl rfl rfl (fun hg4 => ?_) (fun hg4 => ?_)
            | refine W_guard_split rfl rfl rfl (fun hg4 => ?_) (fun hg4 => ?_)
          all_goals try (exfalso; first | omega | (simp only [Bool.false_eq_true, reduceCtorEq] at hg4; done) | (refine absurd hg4 ?_; with_reducible assumption) | (refine absurd ?_ hg4; with_reducible assumption))
          all_goals (
           first
             | (iterate 3 refine W_guard_no rfl rfl rfl ?_)
             | (iterate 3 refine W_guard_un rfl rfl ?_)
             | (refine W_guard_yes rfl ?_
                refine W_move rfl rfl ?_
                refine W_guard_yes rfl ?_
                refine W_move rfl rfl ?_
                refine W_guard_yes rfl ?_
                refine W_acall hp rfl ((wrong_spec w (hg.keep hp) 400 _)) rfl ?_
                clear hp; intro w hp)
           first
             | (refine W_pick_t rfl rfl rfl ?_)
             | (refine W_pick_f rfl rfl rfl ?_)
             | (refine W_pick_b rfl rfl rfl rfl ?_)
           refine W_assign rfl rfl ?_
           refine W_nil ?_
           refine N_then_k ?_
           refine K_ret ?_
           refine N_then_ret ?_
           refine N_done1 (.inr rfl) rfl rfl ?_
           exact ⟨_, rfl, rfl, hp.nil⟩))
       · try (exfalso; first | omega | (simp only [Bool.false_eq_true, reduceCtorEq] at hc3; done) | (refine absurd hc3 ?_; with_reducible assumption) | (refine absurd ?_ hc3; with_reducible assumption))
         all_goals (
          refine K_skip ?_
          refine N_then_k ?_
          refine K_seq ?_
          refine K_region ?_
          refine W_load_own Tryd.underlying24 rfl sz24 rfl hp (by first | exact List.mem_cons_self | exact .tail _ (.head _) | exact .tail _ (.tail _ (.head _)) | exact .tail _ (.tail _ (.tail _ (.head _))) | exact .tail _ (.tail _ (.tail _ (.tail _ (.head _)))) | exact .tail _ (.tail _ (.tail _ (.tail _ (.tail _ (.head _))))) | exact List.mem_append_right _ (.head _) | exact List.mem_append_right _ (.tail _ (.head _)) | exact List.mem_append_right _ (.tail _ (.tail _ (.head _))) | exact .tail _ (List.mem_append_right _ (.head _)) | exact .tail _ (List.mem_append_right _ (.tail _ (.head _)))) rfl rfl rfl ?_
          refine W_pcall hp rfl (ftext_spec p (by omega) (by omega)) rfl ?_
          clear hp; intro w hp
          refine W_pcall hp rfl ((fparse_spec (p.1 ++ [58, 32] ++ p.2) (by simp; omega)).eq (parV_ok hag)) rfl ?_
          clear hp; intro w hp
          refine W_move rfl rfl ?_
          refine W_extract rfl rfl rfl ?_
          refine W_extract rfl rfl rfl ?_
          refine W_alloc hp zv24 rfl rfl ?_
          clear hp; intro b7 w hp
          first
            | (refine W_storeF (A := []) hp rfl sz24 rfl rfl rfl rfl ?_ ?_ ?_ rfl ?_; (focus first | exact Nat.le_of_ble_eq_true rfl | omega | (simp; omega)); (focus first | exact .inl (Nat.zero_le _) | omega); (focus first | (intro v hv; simp at hv; subst hv; rfl) | (simp [Value.oneCell']; done) | (simp [Value.oneCell', strV]; done)))
            | (refine W_storeF (A := [_]) hp rfl sz24 rfl rfl rfl rfl ?_ ?_ ?_ rfl ?_; (focus first | exact Nat.le_of_ble_eq_true rfl | omega | (simp; omega)); (focus first | exact .inl (Nat.zero_le _) | omega); (focus first | (intro v hv; simp at hv; subst hv; rfl) | (simp [Value.oneCell']; done) | (simp [Value.oneCell', strV]; done)))
            | (refine W_storeF (A := [_, _]) hp rfl sz24 rfl rfl rfl rfl ?_ ?_ ?_ rfl ?_; (focus first | exact Nat.le_of_ble_eq_true rfl | omega | (simp; omega)); (focus first | exact .inl (Nat.zero_le _) | omega); (focus first | (intro v hv; simp at hv; subst hv; rfl) | (simp [Value.oneCell']; done) | (simp [Value.oneCell', strV]; done)))
            | (refine W_storeF (A := [_, _, _]) hp rfl sz24 rfl rfl rfl rfl ?_ ?_ ?_ rfl ?_; (focus first | exact Nat.le_of_ble_eq_true rfl | omega | (simp; omega)); (focus first | exact .inl (Nat.zero_le _) | omega); (focus first | (intro v hv; simp at hv; subst hv; rfl) | (simp [Value.oneCell']; done) | (simp [Value.oneCell', strV]; done)))
            | (refine W_storeF (A := [_, _, _, _]) hp rfl sz24 rfl rfl rfl rfl ?_ ?_ ?_ rfl ?_; (focus first | exact Nat.le_of_ble_eq_true rfl | omega | (simp; omega)); (focus first | exact .inl (Nat.zero_le _) | omega); (focus first | (intro v hv; simp at hv; subst hv; rfl) | (simp [Value.oneCell']; done) | (simp [Value.oneCell', strV]; done)))
            | (refine W_storeF (A := [_, _, _, _, _]) hp rfl sz24 rfl rfl rfl rfl ?_ ?_ ?_ rfl ?_; (focus first | exact Nat.le_of_ble_eq_true rfl | omega | (simp; omega)); (focus first | exact .inl (Nat.zero_le _) | omega); (focus first | (intro v hv; simp at hv; subst hv; rfl) | (simp [Value.oneCell']; done) | (simp [Value.oneCell', strV]; done)))
            | (refine W_storeM (A := []) hp rfl sz24 rfl rfl rfl rfl ?_ ?_ ?_ rfl ?_; (focus first | exact Nat.le_of_ble_eq_true rfl | omega | (simp; omega)); (focus first | exact .inl (Nat.zero_le _) | omega); (focus first | (intro v hv; simp at hv; subst hv; rfl) | (simp [Value.oneCell']; done) | (simp [Value.oneCell', strV]; done)))
            | (refine W_storeM (A := [_]) hp rfl sz24 rfl rfl rfl rfl ?_ ?_ ?_ rfl ?_; (focus first | exact Nat.le_of_ble_eq_true rfl | omega | (simp; omega)); (focus first | exact .inl (Nat.zero_le _) | omega); (focus first | (intro v hv; simp at hv; subst hv; rfl) | (simp [Value.oneCell']; done) | (simp [Value.oneCell', strV]; done)))
            | (refine W_storeM (A := [_, _]) hp rfl sz24 rfl rfl rfl rfl ?_ ?_ ?_ rfl ?_; (focus first | exact Nat.le_of_ble_eq_true rfl | omega | (simp; omega)); (focus first | exact .inl (Nat.zero_le _) | omega); (focus first | (intro v hv; simp at hv; subst hv; rfl) | (simp [Value.oneCell']; done) | (simp [Value.oneCell', strV]; done)))
          clear hp; intro w hp
          simp only [List.nil_append, List.cons_append, List.append_nil, List.take_succ_cons, List.take_zero, List.drop_succ_cons, List.drop_zero, List.take_nil, List.drop_nil, Nat.zero_add, Nat.add_zero, Nat.reduceAdd, Int.reduceToNat, Int.toNat_natCast, Nat.reduceMul, Nat.mul_one, Nat.zero_mul] at hp
          refine W_assign rfl rfl ?_
          refine W_nil ?_
          refine N_then_k ?_
          refine K_seq ?_
          refine K_quiet hm hp (by kernel_rfl) ?_
          clear hp
          refine Wq_val (fun w hp => R_move rfl) rfl ?_
          first
            | refine Wq_val (fun w hp => R_bin (a := .nilIface) (v := .bool true) rfl rfl (by kernel_rfl)) rfl ?_
            | refine Wq_val (fun w hp => R_bin (v := .bool false) rfl rfl (by kernel_rfl)) rfl ?_
          refine Wq_val (fun w hp => R_move rfl) rfl ?_
          first
            | refine Wq_guard_lit_t rfl ?_
            | refine Wq_guard_lit_f rfl ?_
            | refine Wq_guard_lit_u rfl ?_
            | refine Wq_guard_split_d rfl rfl rfl (fun hg5 => ?_) (fun hg5 => ?_)
            | refine Wq_guard_split_n rfl rfl rfl (fun hg5 => ?_) (fun hg5 => ?_)
            | refine Wq_guard_split_nb rfl rfl rfl (fun hg5 => ?_) (fun hg5 => ?_)
            | refine Wq_guard_split rfl rfl rfl (fun hg5 => ?_) (fun hg5 => ?_)
          all_goals try (exfalso; first | omega | (simp only [Bool.false_eq_true, reduceCtorEq] at hg5; done) | (refine absurd hg5 ?_; with_reducible assumption) | (refine absurd ?_ hg5; with_reducible assumption))
          all_goals (
           first
             | (iterate 3 refine Wq_guard_no rfl rfl rfl ?_)
             | (iterate 3 refine Wq_guard_un rfl rfl ?_)
             | (refine Wq_guard_yes rfl ?_
                refine Wq_val (fun w hp => R_load_own Tryd.underlying24 rfl sz24 rfl hp (by first | exact List.mem_cons_self | exact .tail _ (.head _) | exact .tail _ (.tail _ (.head _)) | exact .tail _ (.tail _ (.tail _ (.head _))) | exact .tail _ (.tail _ (.tail _ (.tail _ (.head _)))) | exact .tail _ (.tail _ (.tail _ (.tail _ (.tail _ (.head _))))) | exact List.mem_append_right _ (.head _) | exact List.mem_append_right _ (.tail _ (.head _)) | exact List.mem_append_right _ (.tail _ (.tail _ (.head _))) | exact .tail _ (List.mem_append_right _ (.head _)) | exact .tail _ (List.mem_append_right _ (.tail _ (.head _)))) rfl rfl) rfl ?_
                refine Wq_guard_yes rfl ?_
                refine Wq_val (fun w hp => R_load_own Tryd.underlying24 rfl sz24 rfl hp (by first | exact List.mem_cons_self | exact .tail _ (.head _) | exact .tail _ (.tail _ (.head _)) | exact .tail _ (.tail _ (.tail _ (.head _))) | exact .tail _ (.tail _ (.tail _ (.tail _ (.head _)))) | exact .tail _ (.tail _ (.tail _ (.tail _ (.tail _ (.head _))))) | exact List.mem_append_right _ (.head _) | exact List.mem_append_right _ (.tail _ (.head _)) | exact List.mem_append_right _ (.tail _ (.tail _ (.head _))) | exact .tail _ (List.mem_append_right _ (.head _)) | exact .tail _ (List.mem_append_right _ (.tail _ (.head _)))) rfl rfl) rfl ?_
                refine Wq_guard_yes rfl ?_
                refine Wq_val (fun w hp => R_aeql_t (by kernel_rfl) rfl rfl ?_ ?_) rfl ?_
                (focus (first | rfl | assumption))
                (focus (first | rfl | kernel_rfl)))
           first
             | (refine Wq_val (fun w hp => R_pick_t rfl rfl) rfl ?_)
             | (refine Wq_val (fun w hp => R_pick_f rfl rfl) rfl ?_)
             | (refine Wq_val (fun w hp => R_pick_b rfl rfl rfl) rfl ?_)
           refine Wq_val (fun w hp => R_move rfl) rfl ?_
           first
             | refine Wq_guard_lit_t rfl ?_
             | refine Wq_guard_lit_f rfl ?_
             | refine Wq_guard_lit_u rfl ?_
             | refine Wq_guard_split_d rfl rfl rfl (fun hg6 => ?_) (fun hg6 => ?_)
             | refine Wq_guard_split_n rfl rfl rfl (fun hg6 => ?_) (fun hg6 => ?_)
             | refine Wq_guard_split_nb rfl rfl rfl (fun hg6 => ?_) (fun hg6 => ?_)
             | refine Wq_guard_split rfl rfl rfl (fun hg6 => ?_) (fun hg6 => ?_)
           all_goals try (exfalso; first | omega | (simp only [Bool.false_eq_true, reduceCtorEq] at hg6; done) | (refine absurd hg6 ?_; with_reducible assumption) | (refine absurd ?_ hg6; with_reducible assumption))
           all_goals (
            first
              | (iterate 9 refine Wq_guard_no rfl rfl rfl ?_)
              | (iterate 9 refine Wq_guard_un rfl rfl ?_)
              | (refine Wq_guard_yes rfl ?_
                 refine Wq_val (fun w hp => R_load_own Tryd.underlying24 rfl sz24 rfl hp (by first | exact List.mem_cons_self | exact .tail _ (.head _) | exact .tail _ (.tail _ (.head _)) | exact .tail _ (.tail _ (.tail _ (.head _))) | exact .tail _ (.tail _ (.tail _ (.tail _ (.head _)))) | exact .tail _ (.tail _ (.tail _ (.tail _ (.tail _ (.head _))))) | exact List.mem_append_right _ (.head _) | exact List.mem_append_right _ (.tail _ (.head _)) | exact List.mem_append_right _ (.tail _ (.tail _ (.head _))) | exact .tail _ (List.mem_append_right _ (.head _)) | exact .tail _ (List.mem_append_right _ (.tail _ (.head _)))) rfl rfl) rfl ?_
                 refine Wq_guard_yes rfl ?_
                 refine Wq_pcall rfl (ftext_spec p (by omega) (by omega)) rfl ?_
                 refine Wq_guard_yes rfl ?_
                 refine Wq_val (fun w hp => R_fieldAddr Tryd.underlying24 rfl sz9 rfl) rfl ?_
                 refine Wq_guard_yes rfl ?_
                 refine Wq_val (fun w hp => R_load_s Tryd.underlying9 rfl rfl (by first | exact hp.cellF (by first | exact List.mem_cons_self | exact .tail _ (.head _) | exact .tail _ (.tail _ (.head _)) | exact .tail _ (.tail _ (.tail _ (.head _))) | exact .tail _ (.tail _ (.tail _ (.tail _ (.head _)))) | exact .tail _ (.tail _ (.tail _ (.tail _ (.tail _ (.head _))))) | exact List.mem_append_right _ (.head _) | exact List.mem_append_right _ (.tail _ (.head _)) | exact List.mem_append_right _ (.tail _ (.tail _ (.head _))) | exact .tail _ (List.mem_append_right _ (.head _)) | exact .tail _ (List.mem_append_right _ (.tail _ (.head _)))) rfl | exact hp.cellM (by first | exact List.mem_cons_self | exact .tail _ (.head _) | exact .tail _ (.tail _ (.head _)) | exact .tail _ (.tail _ (.tail _ (.head _))) | exact .tail _ (.tail _ (.tail _ (.tail _ (.head _)))) | exact .tail _ (.tail _ (.tail _ (.tail _ (.tail _ (.head _))))) | exact List.mem_append_right _ (.head _) | exact List.mem_append_right _ (.tail _ (.head _)) | exact List.mem_append_right _ (.tail _ (.tail _ (.head _))) | exact .tail _ (List.mem_append_right _ (.head _)) | exact .tail _ (List.mem_append_right _ (.tail _ (.head _)))) rfl | exact hp.cell_old0 ‹_› | (refine hp.cell_old0 ?_; assumption))) rfl ?_
                 refine Wq_guard_yes rfl ?_
                 refine Wq_val (fun w hp => R_sadd rfl rfl ?_) rfl ?_
                 (focus (first | omega | (simp only [List.length_append, List.length_cons, List.length_nil, List.length_drop, List.length_take] at *; omega) | (simp; omega)))
                 refine Wq_guard_yes rfl ?_
                 refine Wq_val (fun w hp => R_fieldAddr Tryd.underlying24 rfl sz9 rfl) rfl ?_
                 refine Wq_guard_yes rfl ?_
                 refine Wq_val (fun w hp => R_load_s Tryd.underlying9 rfl rfl (by first | exact hp.cellF (by first | exact List.mem_cons_self | exact .tail _ (.head _) | exact .tail _ (.tail _ (.head _)) | exact .tail _ (.tail _ (.tail _ (.head _))) | exact .tail _ (.tail _ (.tail _ (.tail _ (.head _)))) | exact .tail _ (.tail _ (.tail _ (.tail _ (.tail _ (.head _))))) | exact List.mem_append_right _ (.head _) | exact List.mem_append_right _ (.tail _ (.head _)) | exact List.mem_append_right _ (.tail _ (.tail _ (.head _))) | exact .tail _ (List.mem_append_right _ (.head _)) | exact .tail _ (List.mem_append_right _ (.tail _ (.head _)))) rfl | exact hp.cellM (by first | exact List.mem_cons_self | exact .tail _ (.head _) | exact .tail _ (.tail _ (.head _)) | exact .tail _ (.tail _ (.tail _ (.head _))) | exact .tail _ (.tail _ (.tail _ (.tail _ (.head _)))) | exact .tail _ (.tail _ (.tail _ (.tail _ (.tail _ (.head _))))) | exact List.mem_append_right _ (.head _) | exact List.mem_append_right _ (.tail _ (.head _)) | exact List.mem_append_right _ (.tail _ (.tail _ (.head _))) | exact .tail _ (List.mem_append_right _ (.head _)) | exact .tail _ (List.mem_append_right _ (.tail _ (.head _)))) rfl | exact hp.cell_old0 ‹_› | (refine hp.cell_old0 ?_; assumption))) rfl ?_
                 refine Wq_guard_yes rfl ?_
                 refine Wq_val (fun w hp => R_sadd rfl rfl ?_) rfl ?_
                 (focus (first | omega | (simp only [List.length_append, List.length_cons, List.length_nil, List.length_drop, List.length_take] at *; omega) | (simp; omega)))
                 refine Wq_guard_yes rfl ?_
                 first
                   | (refine Wq_val (fun w hp => R_seql_t rfl rfl ?_) rfl ?_; (focus (first | rfl | assumption)))
                   | (refine Wq_val (fun w hp => R_seql_f rfl rfl ?_) rfl ?_; (focus (first | assumption | decide | exact List.cons_ne_nil _ _)))
                   | (refine Wq_val (fun w hp => R_seql rfl rfl) rfl ?_))
            first
              | (refine Wq_val (fun w hp => R_pick_t rfl rfl) rfl ?_)
              | (refine Wq_val (fun w hp => R_pick_f rfl rfl) rfl ?_)
              | (refine Wq_val (fun w hp => R_pick_b rfl rfl rfl) rfl ?_)
            refine Wq_val (fun w hp => R_move rfl) rfl ?_
            first
              | refine Wq_guard_lit_t rfl ?_
              | refine Wq_guard_lit_f rfl ?_
              | refine Wq_guard_lit_u rfl ?_
              | refine Wq_guard_split_d rfl rfl rfl (fun hg7 => ?_) (fun hg7 => ?_)
              | refine Wq_guard_split_n rfl rfl rfl (fun hg7 => ?_) (fun hg7 => ?_)
              | refine Wq_guard_split_nb rfl rfl rfl (fun hg7 => ?_) (fun hg7 => ?_)
              | refine Wq_guard_split rfl rfl rfl (fun hg7 => ?_) (fun hg7 => ?_)
            all_goals try (exfalso; first | omega | (simp only [Bool.false_eq_true, reduceCtorEq] at hg7; done) | (refine absurd hg7 ?_; with_reducible assumption) | (refine absurd ?_ hg7; with_reducible assumption))
            all_goals (
             first
               | (iterate 2 refine Wq_guard_no rfl rfl rfl ?_)
               | (iterate 2 refine Wq_guard_un rfl rfl ?_)
               | (refine Wq_guard_yes rfl ?_
                  refine Wq_val (fun w hp => R_move rfl) rfl ?_
                  refine Wq_guard_yes rfl ?_
                  first
                    | refine Wq_val (fun w hp => R_bin (a := .nilIface) (v := .bool true) rfl rfl (by kernel_rfl)) rfl ?_
                    | refine Wq_val (fun w hp => R_bin (v := .bool false) rfl rfl (by kernel_rfl)) rfl ?_)
             first
               | (refine Wq_val (fun w hp => R_pick_t rfl rfl) rfl ?_)
               | (refine Wq_val (fun w hp => R_pick_f rfl rfl) rfl ?_)
               | (refine Wq_val (fun w hp => R_pick_b rfl rfl rfl) rfl ?_)
             refine Wq_val (fun w hp => R_move rfl) rfl ?_
             first
               | refine Wq_guard_lit_t rfl ?_
               | refine Wq_guard_lit_f rfl ?_
               | refine Wq_guard_lit_u rfl ?_
               | refine Wq_guard_split_d rfl rfl rfl (fun hg8 => ?_) (fun hg8 => ?_)
               | refine Wq_guard_split_n rfl rfl rfl (fun hg8 => ?_) (fun hg8 => ?_)
               | refine Wq_guard_split_nb rfl rfl rfl (fun hg8 => ?_) (fun hg8 => ?_)
               | refine Wq_guard_split rfl rfl rfl (fun hg8 => ?_) (fun hg8 => ?_)
             all_goals try (exfalso; first | omega | (simp only [Bool.false_eq_true, reduceCtorEq] at hg8; done) | (refine absurd hg8 ?_; with_reducible assumption) | (refine absurd ?_ hg8; with_reducible assumption))
             all_goals (
              first
                | (iterate 3 refine Wq_guard_no rfl rfl rfl ?_)
                | (iterate 3 refine Wq_guard_un rfl rfl ?_)
                | (refine Wq_guard_yes rfl ?_
                   refine Wq_val (fun w hp => R_load_own Tryd.underlying24 rfl sz24 rfl hp (by first | exact List.mem_cons_self | exact .tail _ (.head _) | exact .tail _ (.tail _ (.head _)) | exact .tail _ (.tail _ (.tail _ (.head _))) | exact .tail _ (.tail _ (.tail _ (.tail _ (.head _)))) | exact .tail _ (.tail _ (.tail _ (.tail _ (.tail _ (.head _))))) | exact List.mem_append_right _ (.head _) | exact List.mem_append_right _ (.tail _ (.head _)) | exact List.mem_append_right _ (.tail _ (.tail _ (.head _))) | exact .tail _ (List.mem_append_right _ (.head _)) | exact .tail _ (List.mem_append_right _ (.tail _ (.head _)))) rfl rfl) rfl ?_
                   refine Wq_guard_yes rfl ?_
                   refine Wq_val (fun w hp => R_load_own Tryd.underlying24 rfl sz24 rfl hp (by first | exact List.mem_cons_self | exact .tail _ (.head _) | exact .tail _ (.tail _ (.head _)) | exact .tail _ (.tail _ (.tail _ (.head _))) | exact .tail _ (.tail _ (.tail _ (.tail _ (.head _)))) | exact .tail _ (.tail _ (.tail _ (.tail _ (.tail _ (.head _))))) | exact List.mem_append_right _ (.head _) | exact List.mem_append_right _ (.tail _ (.head _)) | exact List.mem_append_right _ (.tail _ (.tail _ (.head _))) | exact .tail _ (List.mem_append_right _ (.head _)) | exact .tail _ (List.mem_append_right _ (.tail _ (.head _)))) rfl rfl) rfl ?_
                   refine Wq_guard_yes rfl ?_
                   refine Wq_val (fun w hp => R_aeql_t (by kernel_rfl) rfl rfl ?_ ?_) rfl ?_
                   (focus (first | rfl | assumption))
                   (focus (first | rfl | kernel_rfl)))
              first
                | (refine Wq_val (fun w hp => R_pick_t rfl rfl) rfl ?_)
                | (refine Wq_val (fun w hp => R_pick_f rfl rfl) rfl ?_)
                | (refine Wq_val (fun w hp => R_pick_b rfl rfl rfl) rfl ?_)
              refine Wq_val (fun w hp => R_assign rfl) rfl ?_
              refine Wq_end ?_
              intro w hp
              refine N_then_k ?_
              refine K_ret ?_
              refine N_done1 (.inr rfl) rfl rfl ?_
              exact ⟨_, rfl, rfl, hp.nil⟩))))))))

theorem allF_len {L : List (List UInt8)} {most : Int} {a : List Pair} (h : allF L most = (a, 0, 0)) : a.length = L.length := by
  unfold allF at h
  split at h
  · exact absurd (congrArg (fun q => q.2.1) h) (show ¬ (431:Int) = 0 by decide)
  · split at h
    · exact absurd (congrArg (fun q => q.2.1) h) (show ¬ (400:Int) = 0 by decide)
    · rw [← (Prod.mk.inj h).1]; simp
theorem fewF_spec {L : List Pair} (h : fewF L = true) : L.length ≤ 40 ∧ ∀ p ∈ L, p.1.length ≤ 100 ∧ p.2.length ≤ 300 := by
  simp only [fewF, Bool.and_eq_true, List.all_eq_true, decide_eq_true_eq] at h
  exact ⟨h.2, h.1⟩
theorem values_lower (L : List Pair) (nm : List UInt8) : valuesF L (lower (lower nm)) = valuesF L (lower nm) := by rw [lower_lower]

set_option maxHeartbeats 1000000 in
theorem FieldFinds_walk (w0 : World) (hg : ErrT w0) (L : List Pair) (Al : Option Addr) (cl : Nat) (hrl : Rd w0 (.slice Al L.length cl) L.length (pairC L)) (hbig : L.length ≤ 9223372036854775807) (nm : List UInt8) : PureAt Tryd.prog 4 [.slice Al L.length cl, .string ⟨nm.toArray⟩] (.bool true) w0 := by
  cases hfw : fewF L
  all_goals first | (obtain ⟨hL40', hLb⟩ := fewF_spec hfw; have hL40 : L.length ≤ 100000 := (by omega); have hLn : ∀ p ∈ L, p.1.length ≤ 100000000 := fun p hp => (by have := (hLb p hp).1; omega)) | skip
  all_goals first | (have hvl := valuesF_length L (lower nm); have hvl2 : (valuesF L (lower nm)).length ≤ 100000 := (by omega)) | skip
  all_goals (
   refine PureAt.intro go4 Tryd.func4 rfl rfl fun hp => ?_
   refine (fun (hk : ∀ w, Hp w0 [] [] w → K _ _ _ _ _ w) => hk w0 hp) fun w hp => ?_
   refine K_seq ?_
   refine K_region ?_
   refine W_assign rfl rfl ?_
   refine W_nil ?_
   refine N_then_k ?_
   refine K_seq ?_
   refine K_seq ?_
   refine K_region ?_
   refine W_acall hp rfl ((awake_spec w (hg.keep hp))) rfl ?_
   clear hp; intro w hp
   first
     | (refine W_not_t rfl rfl ?_)
     | (refine W_not_f rfl rfl ?_)
     | (refine W_not rfl rfl ?_)
   refine W_move rfl rfl ?_
   first
     | refine W_guard_lit_t rfl ?_
     | refine W_guard_lit_f rfl ?_
     | refine W_guard_lit_u rfl ?_
     | refine W_guard_split_d rfl rfl rfl (fun hg1 => ?_) (fun hg1 => ?_)
     | refine W_guard_split_n rfl rfl rfl (fun hg1 => ?_) (fun hg1 => ?_)
     | refine W_guard_split_nb rfl rfl rfl (fun hg1 => ?_) (fun hg1 => ?_)
     | refine W_guard_split rfl rfl rfl (fun hg1 => ?_) (fun hg1 => ?_)
   all_goals try (exfalso; first | omega | (simp only [Bool.false_eq_true, reduceCtorEq] at hg1; done) | (refine absurd hg1 ?_; with_reducible assumption) | (refine absurd ?_ hg1; with_reducible assumption))
   all_goals (
    first
      | (iterate 3 refine W_guard_no rfl rfl rfl ?_)
      | (iterate 3 refine W_guard_un rfl rfl ?_)
      | (refine W_guard_yes rfl ?_
         refine W_move rfl rfl ?_
         refine W_guard_yes rfl ?_
         refine W_acall hp rfl (((few_spec w L Al cl (hrl.keep hp) hbig).eq (congrArg Value.bool hfw))) rfl ?_
         clear hp; intro w hp
         refine W_guard_yes rfl ?_
         first
           | (refine W_not_t rfl rfl ?_)
           | (refine W_not_f rfl rfl ?_)
           | (refine W_not rfl rfl ?_))
    first
      | (refine W_pick_t rfl rfl rfl ?_)
      | (refine W_pick_f rfl rfl rfl ?_)
      | (refine W_pick_b rfl rfl rfl rfl ?_)
    refine W_move rfl rfl ?_
    first
      | refine W_guard_lit_t rfl ?_
      | refine W_guard_lit_f rfl ?_
      | refine W_guard_lit_u rfl ?_
      | refine W_guard_split_d rfl rfl rfl (fun hg2 => ?_) (fun hg2 => ?_)
      | refine W_guard_split_n rfl rfl rfl (fun hg2 => ?_) (fun hg2 => ?_)
      | refine W_guard_split_nb rfl rfl rfl (fun hg2 => ?_) (fun hg2 => ?_)
      | refine W_guard_split rfl rfl rfl (fun hg2 => ?_) (fun hg2 => ?_)
    all_goals try (exfalso; first | omega | (simp only [Bool.false_eq_true, reduceCtorEq] at hg2; done) | (refine absurd hg2 ?_; with_reducible assumption) | (refine absurd ?_ hg2; with_reducible assumption))
    all_goals (
     first
       | (iterate 3 refine W_guard_no rfl rfl rfl ?_)
       | (iterate 3 refine W_guard_un rfl rfl ?_)
       | (refine W_guard_yes rfl ?_
          refine W_move rfl rfl ?_
          refine W_guard_yes rfl ?_
          refine W_len_s Tryd.underlying9 rfl rfl ?_
          refine W_guard_yes rfl ?_
          first
            | (refine W_gtr_t rfl rfl ?_ rfl ?_; (focus (omega)))
            | (refine W_gtr_f rfl rfl ?_ rfl ?_; (focus (omega)))
            | (refine W_gtr rfl rfl rfl ?_))
     first
       | (refine W_pick_t rfl rfl rfl ?_)
       | (refine W_pick_f rfl rfl rfl ?_)
       | (refine W_pick_b rfl rfl rfl rfl ?_)
     refine W_nil ?_
     refine N_then_k ?_
     first
       | refine K_cond_d rfl (fun hc3 => ?_) (fun hc3 => ?_)
       | refine K_cond_n rfl (fun hc3 => ?_) (fun hc3 => ?_)
       | refine K_cond_nb rfl (fun hc3 => ?_) (fun hc3 => ?_)
       | refine K_cond_t rfl (fun hc3 => ?_) (fun hc3 => ?_)
     · try (exfalso; first | omega | (simp only [Bool.false_eq_true, reduceCtorEq] at hc3; done) | (refine absurd hc3 ?_; with_reducible assumption) | (refine absurd ?_ hc3; with_reducible assumption))
       all_goals (
        refine K_seq ?_
        refine K_region ?_
        refine W_acall hp rfl ((awake_spec w (hg.keep hp))) rfl ?_
        clear hp; intro w hp
        refine W_assign rfl rfl ?_
        refine W_nil ?_
        refine N_then_k ?_
        refine K_ret ?_
        refine N_then_ret ?_
        refine N_done1 (.inr rfl) rfl rfl ?_
        exact ⟨_, rfl, rfl, hp.nil⟩)
     · try (exfalso; first | omega | (simp only [Bool.false_eq_true, reduceCtorEq] at hc3; done) | (refine absurd hc3 ?_; with_reducible assumption) | (refine absurd ?_ hc3; with_reducible assumption))
       all_goals (
        refine K_skip ?_
        refine N_then_k ?_
        refine K_seq ?_
        refine K_region ?_
        refine W_move rfl rfl ?_
        refine W_move rfl rfl ?_
        refine W_bcall hp rfl ((rvalues_spec w L Al cl (hrl.keep hp) nm (by omega) hLn hL40)) rfl ?_
        clear hp; intro v24 G24 w r24 hp
        obtain ⟨A24, c24, rfl⟩ := r24.form
        refine W_assign rfl rfl ?_
        refine W_nil ?_
        refine N_then_k ?_
        refine K_seq ?_
        refine K_seq ?_
        refine K_region ?_
        refine W_move rfl rfl ?_
        refine W_move rfl rfl ?_
        refine W_bcall hp rfl ((values_spec w L Al cl (hrl.keep hp) nm (by omega) hLn hL40)) rfl ?_
        clear hp; intro v27 G27 w r27 hp
        obtain ⟨A27, c27, rfl⟩ := r27.form
        refine W_move rfl rfl ?_
        refine W_acall hp rfl (((texts_spec w (valuesF L (lower nm)) (valuesF L (lower nm)) _ _ _ _ (r27.rd (A := []) (B := G24) (by simpa using hp)) (r24.rd (A := G27) (B := []) (by simpa using hp)) hvl2).eq (congrArg Value.bool (decide_eq_true rfl)))) rfl ?_
        clear hp; intro w hp
        first
          | (refine W_not_t rfl rfl ?_)
          | (refine W_not_f rfl rfl ?_)
          | (refine W_not rfl rfl ?_)
        refine W_move rfl rfl ?_
        first
          | refine W_guard_lit_t rfl ?_
          | refine W_guard_lit_f rfl ?_
          | refine W_guard_lit_u rfl ?_
          | refine W_guard_split_d rfl rfl rfl (fun hg4 => ?_) (fun hg4 => ?_)
          | refine W_guard_split_n rfl rfl rfl (fun hg4 => ?_) (fun hg4 => ?_)
          | refine W_guard_split_nb rfl rfl rfl (fun hg4 => ?_) (fun hg4 => ?_)
          | refine W_guard_split rfl rfl rfl (fun hg4 => ?_) (fun hg4 => ?_)
        all_goals try (exfalso; first | omega | (simp only [Bool.false_eq_true, reduceCtorEq] at hg4; done) | (refine absurd hg4 ?_; with_reducible assumption) | (refine absurd ?_ hg4; with_reducible assumption))
        all_goals (
         first
           | (iterate 7 refine W_guard_no rfl rfl rfl ?_)
           | (iterate 7 refine W_guard_un rfl rfl ?_)
           | (refine W_guard_yes rfl ?_
              refine W_move rfl rfl ?_
              refine W_guard_yes rfl ?_
              refine W_move rfl rfl ?_
              refine W_guard_yes rfl ?_
              refine W_pcall hp rfl (rlower_spec nm (by omega)) rfl ?_
              clear hp; intro w hp
              refine W_guard_yes rfl ?_
              refine W_bcall hp rfl ((values_spec w L Al cl (hrl.keep hp) (lower nm) (by rw [lower_length]; omega) hLn hL40)) rfl ?_
              clear hp; intro v35 G35 w r35 hp
              rw [lower_lower] at r35
              obtain ⟨A35, c35, rfl⟩ := r35.form
              refine W_guard_yes rfl ?_
              refine W_move rfl rfl ?_
              refine W_guard_yes rfl ?_
              refine W_acall hp rfl (((texts_spec w (valuesF L (lower nm)) (valuesF L (lower nm)) _ _ _ _ (r35.rd (A := []) (B := G27 ++ G24) (by simpa using hp)) (r24.rd (A := G35 ++ G27) (B := []) (by simpa using hp)) hvl2).eq (congrArg Value.bool (decide_eq_true rfl)))) rfl ?_
              clear hp; intro w hp
              refine W_guard_yes rfl ?_
              first
                | (refine W_not_t rfl rfl ?_)
                | (refine W_not_f rfl rfl ?_)
                | (refine W_not rfl rfl ?_))
         first
           | (refine W_pick_t rfl rfl rfl ?_)
           | (refine W_pick_f rfl rfl rfl ?_)
           | (refine W_pick_b rfl rfl rfl rfl ?_)
         refine W_nil ?_
         refine N_then_k ?_
         first
           | refine K_cond_d rfl (fun hc5 => ?_) (fun hc5 => ?_)
           | refine K_cond_n rfl (fun hc5 => ?_) (fun hc5 => ?_)
           | refine K_cond_nb rfl (fun hc5 => ?_) (fun hc5 => ?_)
           | refine K_cond_t rfl (fun hc5 => ?_) (fun hc5 => ?_)
         · try (exfalso; first | omega | (simp only [Bool.false_eq_true, reduceCtorEq] at hc5; done) | (refine absurd hc5 ?_; with_reducible assumption) | (refine absurd ?_ hc5; with_reducible assumption))
           all_goals (
            refine K_seq ?_
            refine K_region ?_
            refine W_assign rfl rfl ?_
            refine W_nil ?_
            refine N_then_k ?_
            refine K_ret ?_
            refine N_then_ret ?_
            refine N_done1 (.inr rfl) rfl rfl ?_
            exact ⟨_, rfl, rfl, hp.nil⟩)
         · try (exfalso; first | omega | (simp only [Bool.false_eq_true, reduceCtorEq] at hc5; done) | (refine absurd hc5 ?_; with_reducible assumption) | (refine absurd ?_ hc5; with_reducible assumption))
           all_goals (
            refine K_skip ?_
            refine N_then_k ?_
            refine K_seq ?_
            refine K_region ?_
            refine W_move rfl rfl ?_
            refine W_move rfl rfl ?_
            rcases one_cases (valuesF L (lower nm)) with ⟨hz, he, hv⟩ | ⟨x, hz, he, hv⟩ | ⟨hz, hv⟩
            all_goals (
             refine W_acall hp rfl (((one_spec w L Al cl (hrl.keep hp) nm (by omega) hLn hL40).eq hv)) rfl ?_
             clear hp; intro w hp
             refine W_move rfl rfl ?_
             refine W_extract rfl rfl rfl ?_
             refine W_extract rfl rfl rfl ?_
             refine W_extract rfl rfl rfl ?_
             refine W_assign rfl rfl ?_
             refine W_assign rfl rfl ?_
             refine W_assign rfl rfl ?_
             refine W_nil ?_
             refine N_then_k ?_
             refine K_seq ?_
             refine K_seq ?_
             refine K_region ?_
             refine W_move rfl rfl ?_
             refine W_len_sl Tryd.underlying36 rfl rfl ?_
             first
               | (refine W_eql_t rfl rfl ?_ rfl ?_; (focus (omega)))
               | (refine W_eql_f rfl rfl ?_ rfl ?_; (focus (omega)))
               | (refine W_eql rfl rfl rfl ?_)
             refine W_nil ?_
             refine N_then_k ?_
             first
               | refine K_cond_d rfl (fun hc6 => ?_) (fun hc6 => ?_)
               | refine K_cond_n rfl (fun hc6 => ?_) (fun hc6 => ?_)
               | refine K_cond_nb rfl (fun hc6 => ?_) (fun hc6 => ?_)
               | refine K_cond_t rfl (fun hc6 => ?_) (fun hc6 => ?_)
             · try (exfalso; first | omega | (simp only [Bool.false_eq_true, reduceCtorEq] at hc6; done) | (refine absurd hc6 ?_; with_reducible assumption) | (refine absurd ?_ hc6; with_reducible assumption))
               all_goals (
                refine K_seq ?_
                refine K_region ?_
                refine W_move rfl rfl ?_
                refine W_move rfl rfl ?_
                have hrd := r24.rd (A := G35 ++ G27) (B := []) (by simpa using hp)
                rw [he] at hrd
                obtain ⟨bb, oo, rfl⟩ := hrd.some (by simp)
                have hcx := hrd.cell (m := 0) (u := strV x) rfl
                refine W_indexAddr_sl Tryd.underlying36 sz9 rfl rfl ?_ ?_ rfl ?_
                (focus (omega))
                (focus (first | omega | (simp; omega)))
                refine W_load_s Tryd.underlying9 rfl rfl (by simpa using hcx) rfl ?_
                first
                  | (refine W_seql_t rfl rfl ?_ rfl ?_; (focus (first | rfl | assumption)))
                  | (refine W_seql_f rfl rfl ?_ rfl ?_; (focus (first | assumption | decide | exact List.cons_ne_nil _ _)))
                  | (refine W_seql rfl rfl rfl ?_)
                refine W_move rfl rfl ?_
                first
                  | refine W_guard_lit_t rfl ?_
                  | refine W_guard_lit_f rfl ?_
                  | refine W_guard_lit_u rfl ?_
                  | refine W_guard_split_d rfl rfl rfl (fun hg7 => ?_) (fun hg7 => ?_)
                  | refine W_guard_split_n rfl rfl rfl (fun hg7 => ?_) (fun hg7 => ?_)
                  | refine W_guard_split_nb rfl rfl rfl (fun hg7 => ?_) (fun hg7 => ?_)
                  | refine W_guard_split rfl rfl rfl (fun hg7 => ?_) (fun hg7 => ?_)
                all_goals try (exfalso; first | omega | (simp only [Bool.false_eq_true, reduceCtorEq] at hg7; done) | (refine absurd hg7 ?_; with_reducible assumption) | (refine absurd ?_ hg7; with_reducible assumption))
                all_goals (
                 first
                   | (refine W_guard_no rfl rfl rfl ?_)
                   | (refine W_guard_un rfl rfl ?_)
                   | (refine W_guard_yes rfl ?_
                      refine W_move rfl rfl ?_)
                 first
                   | (refine W_pick_t rfl rfl rfl ?_)
                   | (refine W_pick_f rfl rfl rfl ?_)
                   | (refine W_pick_b rfl rfl rfl rfl ?_)
                 refine W_move rfl rfl ?_
                 first
                   | refine W_guard_lit_t rfl ?_
                   | refine W_guard_lit_f rfl ?_
                   | refine W_guard_lit_u rfl ?_
                   | refine W_guard_split_d rfl rfl rfl (fun hg8 => ?_) (fun hg8 => ?_)
                   | refine W_guard_split_n rfl rfl rfl (fun hg8 => ?_) (fun hg8 => ?_)
                   | refine W_guard_split_nb rfl rfl rfl (fun hg8 => ?_) (fun hg8 => ?_)
                   | refine W_guard_split rfl rfl rfl (fun hg8 => ?_) (fun hg8 => ?_)
                 all_goals try (exfalso; first | omega | (simp only [Bool.false_eq_true, reduceCtorEq] at hg8; done) | (refine absurd hg8 ?_; with_reducible assumption) | (refine absurd ?_ hg8; with_reducible assumption))
                 all_goals (
                  first
                    | (iterate 2 refine W_guard_no rfl rfl rfl ?_)
                    | (iterate 2 refine W_guard_un rfl rfl ?_)
                    | (refine W_guard_yes rfl ?_
                       refine W_move rfl rfl ?_
                       refine W_guard_yes rfl ?_
                       first
                         | (refine W_val rfl (inb_of rfl) (R_bin (a := .nilIface) (v := .bool true) rfl rfl (by kernel_rfl)) ?_)
                         | (refine W_val rfl (inb_of rfl) (R_bin (v := .bool false) rfl rfl (by kernel_rfl)) ?_))
                  first
                    | (refine W_pick_t rfl rfl rfl ?_)
                    | (refine W_pick_f rfl rfl rfl ?_)
                    | (refine W_pick_b rfl rfl rfl rfl ?_)
                  refine W_assign rfl rfl ?_
                  refine W_nil ?_
                  refine N_then_k ?_
                  refine K_ret ?_
                  refine N_then_ret ?_
                  refine N_done1 (.inr rfl) rfl rfl ?_
                  exact ⟨_, rfl, rfl, hp.nil⟩)))
             · try (exfalso; first | omega | (simp only [Bool.false_eq_true, reduceCtorEq] at hc6; done) | (refine absurd hc6 ?_; with_reducible assumption) | (refine absurd ?_ hc6; with_reducible assumption))
               all_goals (
                refine K_skip ?_
                refine N_then_k ?_
                refine K_seq ?_
                refine K_seq ?_
                refine K_region ?_
                refine W_move rfl rfl ?_
                refine W_len_sl Tryd.underlying36 rfl rfl ?_
                first
                  | (refine W_eql_t rfl rfl ?_ rfl ?_; (focus (omega)))
                  | (refine W_eql_f rfl rfl ?_ rfl ?_; (focus (omega)))
                  | (refine W_eql rfl rfl rfl ?_)
                refine W_nil ?_
                refine N_then_k ?_
                first
                  | refine K_cond_d rfl (fun hc9 => ?_) (fun hc9 => ?_)
                  | refine K_cond_n rfl (fun hc9 => ?_) (fun hc9 => ?_)
                  | refine K_cond_nb rfl (fun hc9 => ?_) (fun hc9 => ?_)
                  | refine K_cond_t rfl (fun hc9 => ?_) (fun hc9 => ?_)
                · try (exfalso; first | omega | (simp only [Bool.false_eq_true, reduceCtorEq] at hc9; done) | (refine absurd hc9 ?_; with_reducible assumption) | (refine absurd ?_ hc9; with_reducible assumption))
                  all_goals (
                   refine K_seq ?_
                   refine K_region ?_
                   refine W_move rfl rfl ?_
                   first
                     | (refine W_seql_t rfl rfl ?_ rfl ?_; (focus (first | rfl | assumption)))
                     | (refine W_seql_f rfl rfl ?_ rfl ?_; (focus (first | assumption | decide | exact List.cons_ne_nil _ _)))
                     | (refine W_seql rfl rfl rfl ?_)
                   refine W_move rfl rfl ?_
                   first
                     | refine W_guard_lit_t rfl ?_
                     | refine W_guard_lit_f rfl ?_
                     | refine W_guard_lit_u rfl ?_
                     | refine W_guard_split_d rfl rfl rfl (fun hg10 => ?_) (fun hg10 => ?_)
                     | refine W_guard_split_n rfl rfl rfl (fun hg10 => ?_) (fun hg10 => ?_)
                     | refine W_guard_split_nb rfl rfl rfl (fun hg10 => ?_) (fun hg10 => ?_)
                     | refine W_guard_split rfl rfl rfl (fun hg10 => ?_) (fun hg10 => ?_)
                   all_goals try (exfalso; first | omega | (simp only [Bool.false_eq_true, reduceCtorEq] at hg10; done) | (refine absurd hg10 ?_; with_reducible assumption) | (refine absurd ?_ hg10; with_reducible assumption))
                   all_goals (
                    first
                      | (iterate 2 refine W_guard_no rfl rfl rfl ?_)
                      | (iterate 2 refine W_guard_un rfl rfl ?_)
                      | (refine W_guard_yes rfl ?_
                         refine W_move rfl rfl ?_
                         refine W_guard_yes rfl ?_
                         first
                           | (refine W_not_t rfl rfl ?_)
                           | (refine W_not_f rfl rfl ?_)
                           | (refine W_not rfl rfl ?_))
                    first
                      | (refine W_pick_t rfl rfl rfl ?_)
                      | (refine W_pick_f rfl rfl rfl ?_)
                      | (refine W_pick_b rfl rfl rfl rfl ?_)
                    refine W_move rfl rfl ?_
                    first
                      | refine W_guard_lit_t rfl ?_
                      | refine W_guard_lit_f rfl ?_
                      | refine W_guard_lit_u rfl ?_
                      | refine W_guard_split_d rfl rfl rfl (fun hg11 => ?_) (fun hg11 => ?_)
                      | refine W_guard_split_n rfl rfl rfl (fun hg11 => ?_) (fun hg11 => ?_)
                      | refine W_guard_split_nb rfl rfl rfl (fun hg11 => ?_) (fun hg11 => ?_)
                      | refine W_guard_split rfl rfl rfl (fun hg11 => ?_) (fun hg11 => ?_)
                    all_goals try (exfalso; first | omega | (simp only [Bool.false_eq_true, reduceCtorEq] at hg11; done) | (refine absurd hg11 ?_; with_reducible assumption) | (refine absurd ?_ hg11; with_reducible assumption))
                    all_goals (
                     first
                       | (iterate 2 refine W_guard_no rfl rfl rfl ?_)
                       | (iterate 2 refine W_guard_un rfl rfl ?_)
                       | (refine W_guard_yes rfl ?_
                          refine W_move rfl rfl ?_
                          refine W_guard_yes rfl ?_
                          first
                            | (refine W_val rfl (inb_of rfl) (R_bin (a := .nilIface) (v := .bool true) rfl rfl (by kernel_rfl)) ?_)
                            | (refine W_val rfl (inb_of rfl) (R_bin (v := .bool false) rfl rfl (by kernel_rfl)) ?_))
                     first
                       | (refine W_pick_t rfl rfl rfl ?_)
                       | (refine W_pick_f rfl rfl rfl ?_)
                       | (refine W_pick_b rfl rfl rfl rfl ?_)
                     refine W_assign rfl rfl ?_
                     refine W_nil ?_
                     refine N_then_k ?_
                     refine K_ret ?_
                     refine N_then_ret ?_
                     refine N_done1 (.inr rfl) rfl rfl ?_
                     exact ⟨_, rfl, rfl, hp.nil⟩)))
                · try (exfalso; first | omega | (simp only [Bool.false_eq_true, reduceCtorEq] at hc9; done) | (refine absurd hc9 ?_; with_reducible assumption) | (refine absurd ?_ hc9; with_reducible assumption))
                  all_goals (
                   refine K_skip ?_
                   refine N_then_k ?_
                   refine K_seq ?_
                   refine K_region ?_
                   refine W_move rfl rfl ?_
                   first
                     | (refine W_seql_t rfl rfl ?_ rfl ?_; (focus (first | rfl | assumption)))
                     | (refine W_seql_f rfl rfl ?_ rfl ?_; (focus (first | assumption | decide | exact List.cons_ne_nil _ _)))
                     | (refine W_seql rfl rfl rfl ?_)
                   refine W_move rfl rfl ?_
                   first
                     | refine W_guard_lit_t rfl ?_
                     | refine W_guard_lit_f rfl ?_
                     | refine W_guard_lit_u rfl ?_
                     | refine W_guard_split_d rfl rfl rfl (fun hg12 => ?_) (fun hg12 => ?_)
                     | refine W_guard_split_n rfl rfl rfl (fun hg12 => ?_) (fun hg12 => ?_)
                     | refine W_guard_split_nb rfl rfl rfl (fun hg12 => ?_) (fun hg12 => ?_)
                     | refine W_guard_split rfl rfl rfl (fun hg12 => ?_) (fun hg12 => ?_)
                   all_goals try (exfalso; first | omega | (simp only [Bool.false_eq_true, reduceCtorEq] at hg12; done) | (refine absurd hg12 ?_; with_reducible assumption) | (refine absurd ?_ hg12; with_reducible assumption))
                   all_goals (
                    first
                      | (iterate 2 refine W_guard_no rfl rfl rfl ?_)
                      | (iterate 2 refine W_guard_un rfl rfl ?_)
                      | (refine W_guard_yes rfl ?_
                         refine W_move rfl rfl ?_
                         refine W_guard_yes rfl ?_
                         first
                           | (refine W_not_t rfl rfl ?_)
                           | (refine W_not_f rfl rfl ?_)
                           | (refine W_not rfl rfl ?_))
                    first
                      | (refine W_pick_t rfl rfl rfl ?_)
                      | (refine W_pick_f rfl rfl rfl ?_)
                      | (refine W_pick_b rfl rfl rfl rfl ?_)
                    refine W_move rfl rfl ?_
                    first
                      | refine W_guard_lit_t rfl ?_
                      | refine W_guard_lit_f rfl ?_
                      | refine W_guard_lit_u rfl ?_
                      | refine W_guard_split_d rfl rfl rfl (fun hg13 => ?_) (fun hg13 => ?_)
                      | refine W_guard_split_n rfl rfl rfl (fun hg13 => ?_) (fun hg13 => ?_)
                      | refine W_guard_split_nb rfl rfl rfl (fun hg13 => ?_) (fun hg13 => ?_)
                      | refine W_guard_split rfl rfl rfl (fun hg13 => ?_) (fun hg13 => ?_)
                    all_goals try (exfalso; first | omega | (simp only [Bool.false_eq_true, reduceCtorEq] at hg13; done) | (refine absurd hg13 ?_; with_reducible assumption) | (refine absurd ?_ hg13; with_reducible assumption))
                    all_goals (
                     first
                       | (iterate 3 refine W_guard_no rfl rfl rfl ?_)
                       | (iterate 3 refine W_guard_un rfl rfl ?_)
                       | (refine W_guard_yes rfl ?_
                          refine W_move rfl rfl ?_
                          refine W_guard_yes rfl ?_
                          refine W_mkiface Tryd.underlying43 rfl rfl rfl ?_
                          refine W_guard_yes rfl ?_
                          refine W_pcall hp rfl (is_same) rfl ?_
                          clear hp; intro w hp)
                     first
                       | (refine W_pick_t rfl rfl rfl ?_)
                       | (refine W_pick_f rfl rfl rfl ?_)
                       | (refine W_pick_b rfl rfl rfl rfl ?_)
                     refine W_assign rfl rfl ?_
                     refine W_nil ?_
                     refine N_then_k ?_
                     refine K_ret ?_
                     refine N_done1 (.inr rfl) rfl rfl ?_
                     exact ⟨_, rfl, rfl, hp.nil⟩)))))))))))

set_option maxHeartbeats 600000 in
theorem FieldAll_walk (w0 : World) (hg : ErrT w0) (L : List (List UInt8)) (Al : Option Addr) (cl : Nat) (hrl : Rd w0 (.slice Al L.length cl) L.length (L.map strV)) (most : Int) (hmm : -9223372036854775808 ≤ most ∧ most ≤ 9223372036854775807) : PureAt Tryd.prog 5 [.slice Al L.length cl, .int .i64 most] (.bool true) w0 := by
  refine PureAt.intro go5 Tryd.func5 rfl rfl fun hp => ?_
  refine (fun (hk : ∀ w, Hp w0 [] [] w → K _ _ _ _ _ w) => hk w0 hp) fun w hp => ?_
  refine K_seq ?_
  refine K_region ?_
  refine W_assign rfl rfl ?_
  refine W_nil ?_
  refine N_then_k ?_
  refine K_seq ?_
  refine K_seq ?_
  refine K_region ?_
  refine W_acall hp rfl ((awake_spec w (hg.keep hp))) rfl ?_
  clear hp; intro w hp
  first
    | (refine W_not_t rfl rfl ?_)
    | (refine W_not_f rfl rfl ?_)
    | (refine W_not rfl rfl ?_)
  refine W_move rfl rfl ?_
  first
    | refine W_guard_lit_t rfl ?_
    | refine W_guard_lit_f rfl ?_
    | refine W_guard_lit_u rfl ?_
    | refine W_guard_split_d rfl rfl rfl (fun hg1 => ?_) (fun hg1 => ?_)
    | refine W_guard_split_n rfl rfl rfl (fun hg1 => ?_) (fun hg1 => ?_)
    | refine W_guard_split_nb rfl rfl rfl (fun hg1 => ?_) (fun hg1 => ?_)
    | refine W_guard_split rfl rfl rfl (fun hg1 => ?_) (fun hg1 => ?_)
  all_goals try (exfalso; first | omega | (simp only [Bool.false_eq_true, reduceCtorEq] at hg1; done) | (refine absurd hg1 ?_; with_reducible assumption) | (refine absurd ?_ hg1; with_reducible assumption))
  all_goals (
   first
     | (iterate 3 refine W_guard_no rfl rfl rfl ?_)
     | (iterate 3 refine W_guard_un rfl rfl ?_)
     | (refine W_guard_yes rfl ?_
        refine W_move rfl rfl ?_
        refine W_guard_yes rfl ?_
        refine W_len_sl Tryd.underlying36 rfl rfl ?_
        refine W_guard_yes rfl ?_
        first
          | (refine W_gtr_t rfl rfl ?_ rfl ?_; (focus (omega)))
          | (refine W_gtr_f rfl rfl ?_ rfl ?_; (focus (omega)))
          | (refine W_gtr rfl rfl rfl ?_))
   first
     | (refine W_pick_t rfl rfl rfl ?_)
     | (refine W_pick_f rfl rfl rfl ?_)
     | (refine W_pick_b rfl rfl rfl rfl ?_)
   refine W_nil ?_
   refine N_then_k ?_
   first
     | refine K_cond_d rfl (fun hc2 => ?_) (fun hc2 => ?_)
     | refine K_cond_n rfl (fun hc2 => ?_) (fun hc2 => ?_)
     | refine K_cond_nb rfl (fun hc2 => ?_) (fun hc2 => ?_)
     | refine K_cond_t rfl (fun hc2 => ?_) (fun hc2 => ?_)
   · try (exfalso; first | omega | (simp only [Bool.false_eq_true, reduceCtorEq] at hc2; done) | (refine absurd hc2 ?_; with_reducible assumption) | (refine absurd ?_ hc2; with_reducible assumption))
     all_goals (
      refine K_seq ?_
      refine K_region ?_
      refine W_acall hp rfl ((awake_spec w (hg.keep hp))) rfl ?_
      clear hp; intro w hp
      refine W_assign rfl rfl ?_
      refine W_nil ?_
      refine N_then_k ?_
      refine K_ret ?_
      refine N_then_ret ?_
      refine N_done1 (.inr rfl) rfl rfl ?_
      exact ⟨_, rfl, rfl, hp.nil⟩)
   · try (exfalso; first | omega | (simp only [Bool.false_eq_true, reduceCtorEq] at hc2; done) | (refine absurd hc2 ?_; with_reducible assumption) | (refine absurd ?_ hc2; with_reducible assumption))
     all_goals (
      refine K_skip ?_
      refine N_then_k ?_
      refine K_seq ?_
      refine K_seq ?_
      refine K_region ?_
      refine W_assign rfl rfl ?_
      refine W_nil ?_
      refine N_then_k ?_
      refine K_block ?_
      refine K_loop (σ := Nat) [4, 5, 19, 20, 21, 22, 23, 24, 25, 26, 27, 28, 29, 30]
          (fun k => [(5, .int .i64 k)])
          (fun k w => Hp w0 [] [] w ∧ k ≤ L.length ∧ ∀ x ∈ L.take k, x.length ≤ 300)
          (fun k => L.length - k) (0) ?_ ?_ ?_
      · repeat' (first | exact sub_lst_nil (sub_nil _) | refine sub_lst rfl ?_ | (refine sub_lst_eq rfl ?_ ?_; · first | rfl | (simp; done) | (congr 1; omega)))
      · exact ⟨hp, Nat.zero_le _, by simp⟩
      · intro k w hJ
        clear hp
        obtain ⟨hp, hle, hL⟩ := hJ
        rcases Nat.lt_or_ge k L.length with hlt | hge
        all_goals (
         refine K_seq ?_
         refine K_seq ?_
         refine K_region ?_
         refine W_move rfl rfl ?_
         refine W_move rfl rfl ?_
         refine W_len_sl Tryd.underlying36 rfl rfl ?_
         first
           | (refine W_lss_t rfl rfl ?_ rfl ?_; (focus (omega)))
           | (refine W_lss_f rfl rfl ?_ rfl ?_; (focus (omega)))
           | (refine W_lss rfl rfl rfl ?_)
         refine W_nil ?_
         refine N_then_k ?_
         first
           | refine K_cond_d rfl (fun hc3 => ?_) (fun hc3 => ?_)
           | refine K_cond_n rfl (fun hc3 => ?_) (fun hc3 => ?_)
           | refine K_cond_nb rfl (fun hc3 => ?_) (fun hc3 => ?_)
           | refine K_cond_t rfl (fun hc3 => ?_) (fun hc3 => ?_)
         · try (exfalso; first | omega | (simp only [Bool.false_eq_true, reduceCtorEq] at hc3; done) | (refine absurd hc3 ?_; with_reducible assumption) | (refine absurd ?_ hc3; with_reducible assumption))
           all_goals (
            refine K_skip ?_
            refine N_then_k ?_
            refine K_seq ?_
            refine K_block ?_
            refine K_seq ?_
            refine K_region ?_
            obtain ⟨x, hx⟩ : ∃ x, L[k]? = some x := ⟨_, List.getElem?_eq_getElem hlt⟩
            have hxs := strV_at hx
            obtain ⟨bb, oo, rfl⟩ := hrl.some (by intro e; rw [e] at hxs; simp at hxs)
            have hcx := hrl.cell hxs
            refine W_move rfl rfl ?_
            refine W_move rfl rfl ?_
            refine W_indexAddr_sl Tryd.underlying36 sz9 rfl rfl ?_ ?_ rfl ?_
            (focus (omega))
            (focus (first | omega | (simp; omega)))
            refine W_load_s Tryd.underlying9 rfl rfl (by exact hp.cell_old0 (by simpa using hcx)) rfl ?_
            refine W_len_s Tryd.underlying9 rfl rfl ?_
            first
              | (refine W_gtr_t rfl rfl ?_ rfl ?_; (focus (omega)))
              | (refine W_gtr_f rfl rfl ?_ rfl ?_; (focus (omega)))
              | (refine W_gtr rfl rfl rfl ?_)
            refine W_nil ?_
            refine N_then_k ?_
            first
              | refine K_cond_d rfl (fun hc4 => ?_) (fun hc4 => ?_)
              | refine K_cond_n rfl (fun hc4 => ?_) (fun hc4 => ?_)
              | refine K_cond_nb rfl (fun hc4 => ?_) (fun hc4 => ?_)
              | refine K_cond_t rfl (fun hc4 => ?_) (fun hc4 => ?_)
            · try (exfalso; first | omega | (simp only [Bool.false_eq_true, reduceCtorEq] at hc4; done) | (refine absurd hc4 ?_; with_reducible assumption) | (refine absurd ?_ hc4; with_reducible assumption))
              all_goals (
               refine K_seq ?_
               refine K_region ?_
               refine W_assign rfl rfl ?_
               refine W_nil ?_
               refine N_then_k ?_
               refine K_ret ?_
               refine N_block_ret ?_
               refine N_then_ret ?_
               refine N_then_ret ?_
               refine N_block_ret ?_
               refine N_then_ret ?_
               refine N_done1 (.inr rfl) rfl rfl ?_
               exact ⟨_, rfl, rfl, hp.nil⟩)
            · try (exfalso; first | omega | (simp only [Bool.false_eq_true, reduceCtorEq] at hc4; done) | (refine absurd hc4 ?_; with_reducible assumption) | (refine absurd ?_ hc4; with_reducible assumption))
              all_goals (
               refine K_skip ?_
               refine N_block_normal ?_
               refine N_then_k ?_
               refine K_region ?_
               refine W_move rfl rfl ?_
               first
                 | (refine W_add rfl rfl (wr_i64 ?_) rfl ?_; (focus (omega)))
                 | (refine W_add rfl rfl rfl rfl ?_)
               refine W_assign rfl rfl ?_
               refine W_nil ?_
               refine N_again (k + 1) (sub_end ?_ ?_) ?_ ?_
               · repeat' (first | exact sub_lst_nil (sub_nil _) | refine sub_lst rfl ?_ | (refine sub_lst_eq rfl ?_ ?_; · first | rfl | (simp; done) | (congr 1; omega)))
               · repeat' (first | exact sub_refl _ | exact sub_strip _ _ | refine sub_s_cons rfl ?_ | refine sub_s_lst rfl ?_ | refine sub_s_strip rfl ?_)
               · refine ⟨hp, hlt, ?_⟩
                 intro q hq
                 rw [List.take_add_one, hx] at hq
                 rcases List.mem_append.1 hq with hq | hq
                 · exact hL q hq
                 · simp at hq; subst hq; omega
               · omega))
         · try (exfalso; first | omega | (simp only [Bool.false_eq_true, reduceCtorEq] at hc3; done) | (refine absurd hc3 ?_; with_reducible assumption) | (refine absurd ?_ hc3; with_reducible assumption))
           all_goals (
            refine K_exit ?_
            refine N_then_exit ?_
            refine N_then_exit ?_
            refine N_block_exit ?_
            refine N_then_k ?_
            refine K_seq ?_
            refine K_region ?_
            rw [List.take_of_length_le hge] at hL
            refine W_move rfl rfl ?_
            refine W_move rfl rfl ?_
            refine W_bcall hp rfl ((fall_spec w L Al cl (hrl.keep hp) most hmm (by omega) hL)) rfl ?_
            clear hp; intro v34 G34 w r34 hp
            rcases allF_three L most with ⟨a, hA⟩ | ⟨st, at_, hA, hst⟩
            all_goals first | (obtain ⟨fv, rfl, hos⟩ := allR_fine r34 hA; have hal := allF_len hA) | (obtain ⟨A34, c34, rfl⟩ := allR_bad r34 hA hst)
            all_goals (
             refine W_move rfl rfl ?_
             refine W_extract rfl rfl rfl ?_
             refine W_extract rfl rfl rfl ?_
             refine W_assign rfl rfl ?_
             refine W_assign rfl rfl ?_
             refine W_nil ?_
             refine N_then_k ?_
             refine K_seq ?_
             refine K_region ?_
             refine W_move rfl rfl ?_
             refine W_move rfl rfl ?_
             refine W_bcall hp rfl ((rfall_spec w L Al cl (hrl.keep hp) most hmm (by omega) hL)) rfl ?_
             clear hp; intro v40 G40 w r40 hp
             obtain ⟨gv, rfl, hos2⟩ := rallR_of r40 hA
             refine W_move rfl rfl ?_
             refine W_extract rfl rfl rfl ?_
             refine W_extract rfl rfl rfl ?_
             refine W_extract rfl rfl rfl ?_
             refine W_assign rfl rfl ?_
             refine W_assign rfl rfl ?_
             refine W_assign rfl rfl ?_
             refine W_nil ?_
             refine N_then_k ?_
             refine K_seq ?_
             refine K_seq ?_
             refine K_region ?_
             refine W_move rfl rfl ?_
             first
               | (refine W_neq_t rfl rfl ?_ rfl ?_; (focus (omega)))
               | (refine W_neq_f rfl rfl ?_ rfl ?_; (focus (omega)))
               | (refine W_neq rfl rfl rfl ?_)
             refine W_nil ?_
             refine N_then_k ?_
             first
               | refine K_cond_d rfl (fun hc5 => ?_) (fun hc5 => ?_)
               | refine K_cond_n rfl (fun hc5 => ?_) (fun hc5 => ?_)
               | refine K_cond_nb rfl (fun hc5 => ?_) (fun hc5 => ?_)
               | refine K_cond_t rfl (fun hc5 => ?_) (fun hc5 => ?_)
             · try (exfalso; first | omega | (simp only [Bool.false_eq_true, reduceCtorEq] at hc5; done) | (refine absurd hc5 ?_; with_reducible assumption) | (refine absurd ?_ hc5; with_reducible assumption))
               all_goals (
                refine K_seq ?_
                refine K_region ?_
                refine W_move rfl rfl ?_
                refine W_len_sl Tryd.underlying34 rfl rfl ?_
                first
                  | (refine W_eql_t rfl rfl ?_ rfl ?_; (focus (omega)))
                  | (refine W_eql_f rfl rfl ?_ rfl ?_; (focus (omega)))
                  | (refine W_eql rfl rfl rfl ?_)
                refine W_move rfl rfl ?_
                first
                  | refine W_guard_lit_t rfl ?_
                  | refine W_guard_lit_f rfl ?_
                  | refine W_guard_lit_u rfl ?_
                  | refine W_guard_split_d rfl rfl rfl (fun hg6 => ?_) (fun hg6 => ?_)
                  | refine W_guard_split_n rfl rfl rfl (fun hg6 => ?_) (fun hg6 => ?_)
                  | refine W_guard_split_nb rfl rfl rfl (fun hg6 => ?_) (fun hg6 => ?_)
                  | refine W_guard_split rfl rfl rfl (fun hg6 => ?_) (fun hg6 => ?_)
                all_goals try (exfalso; first | omega | (simp only [Bool.false_eq_true, reduceCtorEq] at hg6; done) | (refine absurd hg6 ?_; with_reducible assumption) | (refine absurd ?_ hg6; with_reducible assumption))
                all_goals (
                 first
                   | (iterate 4 refine W_guard_no rfl rfl rfl ?_)
                   | (iterate 4 refine W_guard_un rfl rfl ?_)
                   | (refine W_guard_yes rfl ?_
                      refine W_move rfl rfl ?_
                      refine W_guard_yes rfl ?_
                      refine W_move rfl rfl ?_
                      refine W_guard_yes rfl ?_
                      refine W_move rfl rfl ?_
                      refine W_guard_yes rfl ?_
                      refine W_acall hp rfl ((wrong_spec w (hg.keep hp) _ _)) rfl ?_
                      clear hp; intro w hp)
                 first
                   | (refine W_pick_t rfl rfl rfl ?_)
                   | (refine W_pick_f rfl rfl rfl ?_)
                   | (refine W_pick_b rfl rfl rfl rfl ?_)
                 refine W_assign rfl rfl ?_
                 refine W_nil ?_
                 refine N_then_k ?_
                 refine K_ret ?_
                 refine N_then_ret ?_
                 refine N_done1 (.inr rfl) rfl rfl ?_
                 exact ⟨_, rfl, rfl, hp.nil⟩))
             · try (exfalso; first | omega | (simp only [Bool.false_eq_true, reduceCtorEq] at hc5; done) | (refine absurd hc5 ?_; with_reducible assumption) | (refine absurd ?_ hc5; with_reducible assumption))
               all_goals (
                refine K_skip ?_
                refine N_then_k ?_
                refine K_seq ?_
                refine K_region ?_
                refine W_move rfl rfl ?_
                first
                  | (refine W_val rfl (inb_of rfl) (R_bin (a := .nilIface) (v := .bool true) rfl rfl (by kernel_rfl)) ?_)
                  | (refine W_val rfl (inb_of rfl) (R_bin (v := .bool false) rfl rfl (by kernel_rfl)) ?_)
                refine W_move rfl rfl ?_
                first
                  | refine W_guard_lit_t rfl ?_
                  | refine W_guard_lit_f rfl ?_
                  | refine W_guard_lit_u rfl ?_
                  | refine W_guard_split_d rfl rfl rfl (fun hg7 => ?_) (fun hg7 => ?_)
                  | refine W_guard_split_n rfl rfl rfl (fun hg7 => ?_) (fun hg7 => ?_)
                  | refine W_guard_split_nb rfl rfl rfl (fun hg7 => ?_) (fun hg7 => ?_)
                  | refine W_guard_split rfl rfl rfl (fun hg7 => ?_) (fun hg7 => ?_)
                all_goals try (exfalso; first | omega | (simp only [Bool.false_eq_true, reduceCtorEq] at hg7; done) | (refine absurd hg7 ?_; with_reducible assumption) | (refine absurd ?_ hg7; with_reducible assumption))
                all_goals (
                 first
                   | (iterate 3 refine W_guard_no rfl rfl rfl ?_)
                   | (iterate 3 refine W_guard_un rfl rfl ?_)
                   | (refine W_guard_yes rfl ?_
                      refine W_move rfl rfl ?_
                      refine W_guard_yes rfl ?_
                      refine W_move rfl rfl ?_
                      refine W_guard_yes rfl ?_
                      obtain ⟨A1, c1, rfl⟩ := hos.form
                      obtain ⟨A2, c2, rfl⟩ := hos2.form
                      refine W_acall hp rfl (same_spec w a _ _ _ _ (hos.rd (A := G40) (B := []) (by simpa using hp)) (hos2.rd (A := []) (B := G34) (by simpa using hp)) (by omega)) rfl ?_
                      clear hp; intro w hp)
                 first
                   | (refine W_pick_t rfl rfl rfl ?_)
                   | (refine W_pick_f rfl rfl rfl ?_)
                   | (refine W_pick_b rfl rfl rfl rfl ?_)
                 refine W_assign rfl rfl ?_
                 refine W_nil ?_
                 refine N_then_k ?_
                 refine K_ret ?_
                 refine N_done1 (.inr rfl) rfl rfl ?_
                 exact ⟨_, rfl, rfl, hp.nil⟩)))))))

def blanksF : Nat → List UInt8
  | 0 => []
  | n + 1 => blanksF n ++ [32, 9]
theorem blanksF_length (n : Nat) : (blanksF n).length = 2 * n := by
  induction n with
  | zero => rfl
  | succ n ih => show (blanksF n ++ [32, 9]).length = _; rw [List.length_append, ih]; simp; omega
theorem blanksF_blank (n : Nat) : ∀ c ∈ blanksF n, blankB c = true := by
  induction n with
  | zero => intro c hc; cases hc
  | succ n ih =>
    intro c hc
    rcases List.mem_append.1 (show c ∈ blanksF n ++ [32, 9] from hc) with h | h
    · exact ih c h
    · simp at h; rcases h with rfl | rfl <;> decide

set_option maxHeartbeats 600000 in
theorem FieldBlanks_walk (w0 : World) (hg : ErrT w0) (s : List UInt8) (m : UInt8) (hs : s.length ≤ 2000000) : PureAt Tryd.prog 6 [.string ⟨s.toArray⟩, .int .u8 (m.toNat : Int)] (.bool true) w0 := by
  have hmu := u8_lt m
  rcases pf_two s with ⟨p, hD⟩ | ⟨n, hD, hnl⟩
  all_goals first | (have hpl := pf_len hD; have hco := parse_colon hD) | skip
  all_goals have hbf := parse_before s
  all_goals (
   refine PureAt.intro go6 Tryd.func6 rfl rfl fun hp => ?_
   refine (fun (hk : ∀ w, Hp w0 [] [] w → K _ _ _ _ _ w) => hk w0 hp) fun w hp => ?_
   refine K_seq ?_
   refine K_region ?_
   refine W_assign rfl rfl ?_
   refine W_nil ?_
   refine N_then_k ?_
   refine K_seq ?_
   refine K_region ?_
   refine W_move rfl rfl ?_
   refine W_pcall hp rfl (rfparse_spec s (by omega)) rfl ?_
   clear hp; intro w hp
   rw [hD]
   refine W_move rfl rfl ?_
   refine W_extract rfl rfl rfl ?_
   refine W_extract rfl rfl rfl ?_
   refine W_alloc hp zv24 rfl rfl ?_
   clear hp; intro b5 w hp
   first
     | (refine W_storeF (A := []) hp rfl sz24 rfl rfl rfl rfl ?_ ?_ ?_ rfl ?_; (focus first | exact Nat.le_of_ble_eq_true rfl | omega | (simp; omega)); (focus first | exact .inl (Nat.zero_le _) | omega); (focus first | (intro v hv; simp at hv; subst hv; rfl) | (simp [Value.oneCell']; done) | (simp [Value.oneCell', strV]; done)))
     | (refine W_storeF (A := [_]) hp rfl sz24 rfl rfl rfl rfl ?_ ?_ ?_ rfl ?_; (focus first | exact Nat.le_of_ble_eq_true rfl | omega | (simp; omega)); (focus first | exact .inl (Nat.zero_le _) | omega); (focus first | (intro v hv; simp at hv; subst hv; rfl) | (simp [Value.oneCell']; done) | (simp [Value.oneCell', strV]; done)))
     | (refine W_storeF (A := [_, _]) hp rfl sz24 rfl rfl rfl rfl ?_ ?_ ?_ rfl ?_; (focus first | exact Nat.le_of_ble_eq_true rfl | omega | (simp; omega)); (focus first | exact .inl (Nat.zero_le _) | omega); (focus first | (intro v hv; simp at hv; subst hv; rfl) | (simp [Value.oneCell']; done) | (simp [Value.oneCell', strV]; done)))
     | (refine W_storeF (A := [_, _, _]) hp rfl sz24 rfl rfl rfl rfl ?_ ?_ ?_ rfl ?_; (focus first | exact Nat.le_of_ble_eq_true rfl | omega | (simp; omega)); (focus first | exact .inl (Nat.zero_le _) | omega); (focus first | (intro v hv; simp at hv; subst hv; rfl) | (simp [Value.oneCell']; done) | (simp [Value.oneCell', strV]; done)))
     | (refine W_storeF (A := [_, _, _, _]) hp rfl sz24 rfl rfl rfl rfl ?_ ?_ ?_ rfl ?_; (focus first | exact Nat.le_of_ble_eq_true rfl | omega | (simp; omega)); (focus first | exact .inl (Nat.zero_le _) | omega); (focus first | (intro v hv; simp at hv; subst hv; rfl) | (simp [Value.oneCell']; done) | (simp [Value.oneCell', strV]; done)))
     | (refine W_storeF (A := [_, _, _, _, _]) hp rfl sz24 rfl rfl rfl rfl ?_ ?_ ?_ rfl ?_; (focus first | exact Nat.le_of_ble_eq_true rfl | omega | (simp; omega)); (focus first | exact .inl (Nat.zero_le _) | omega); (focus first | (intro v hv; simp at hv; subst hv; rfl) | (simp [Value.oneCell']; done) | (simp [Value.oneCell', strV]; done)))
     | (refine W_storeM (A := []) hp rfl sz24 rfl rfl rfl rfl ?_ ?_ ?_ rfl ?_; (focus first | exact Nat.le_of_ble_eq_true rfl | omega | (simp; omega)); (focus first | exact .inl (Nat.zero_le _) | omega); (focus first | (intro v hv; simp at hv; subst hv; rfl) | (simp [Value.oneCell']; done) | (simp [Value.oneCell', strV]; done)))
     | (refine W_storeM (A := [_]) hp rfl sz24 rfl rfl rfl rfl ?_ ?_ ?_ rfl ?_; (focus first | exact Nat.le_of_ble_eq_true rfl | omega | (simp; omega)); (focus first | exact .inl (Nat.zero_le _) | omega); (focus first | (intro v hv; simp at hv; subst hv; rfl) | (simp [Value.oneCell']; done) | (simp [Value.oneCell', strV]; done)))
     | (refine W_storeM (A := [_, _]) hp rfl sz24 rfl rfl rfl rfl ?_ ?_ ?_ rfl ?_; (focus first | exact Nat.le_of_ble_eq_true rfl | omega | (simp; omega)); (focus first | exact .inl (Nat.zero_le _) | omega); (focus first | (intro v hv; simp at hv; subst hv; rfl) | (simp [Value.oneCell']; done) | (simp [Value.oneCell', strV]; done)))
   clear hp; intro w hp
   simp only [List.nil_append, List.cons_append, List.append_nil, List.take_succ_cons, List.take_zero, List.drop_succ_cons, List.drop_zero, List.take_nil, List.drop_nil, Nat.zero_add, Nat.add_zero, Nat.reduceAdd, Int.reduceToNat, Int.toNat_natCast, Nat.reduceMul, Nat.mul_one, Nat.zero_mul] at hp
   refine W_assign rfl rfl ?_
   refine W_nil ?_
   refine N_then_k ?_
   refine K_seq ?_
   refine K_seq ?_
   refine K_region ?_
   refine W_acall hp rfl ((awake_spec w (hg.keep hp))) rfl ?_
   clear hp; intro w hp
   first
     | (refine W_not_t rfl rfl ?_)
     | (refine W_not_f rfl rfl ?_)
     | (refine W_not rfl rfl ?_)
   refine W_move rfl rfl ?_
   first
     | refine W_guard_lit_t rfl ?_
     | refine W_guard_lit_f rfl ?_
     | refine W_guard_lit_u rfl ?_
     | refine W_guard_split_d rfl rfl rfl (fun hg1 => ?_) (fun hg1 => ?_)
     | refine W_guard_split_n rfl rfl rfl (fun hg1 => ?_) (fun hg1 => ?_)
     | refine W_guard_split_nb rfl rfl rfl (fun hg1 => ?_) (fun hg1 => ?_)
     | refine W_guard_split rfl rfl rfl (fun hg1 => ?_) (fun hg1 => ?_)
   all_goals try (exfalso; first | omega | (simp only [Bool.false_eq_true, reduceCtorEq] at hg1; done) | (refine absurd hg1 ?_; with_reducible assumption) | (refine absurd ?_ hg1; with_reducible assumption))
   all_goals (
    first
      | (iterate 3 refine W_guard_no rfl rfl rfl ?_)
      | (iterate 3 refine W_guard_un rfl rfl ?_)
      | (refine W_guard_yes rfl ?_
         refine W_move rfl rfl ?_
         refine W_guard_yes rfl ?_
         refine W_len_s Tryd.underlying9 rfl rfl ?_
         refine W_guard_yes rfl ?_
         first
           | (refine W_gtr_t rfl rfl ?_ rfl ?_; (focus (omega)))
           | (refine W_gtr_f rfl rfl ?_ rfl ?_; (focus (omega)))
           | (refine W_gtr rfl rfl rfl ?_))
    first
      | (refine W_pick_t rfl rfl rfl ?_)
      | (refine W_pick_f rfl rfl rfl ?_)
      | (refine W_pick_b rfl rfl rfl rfl ?_)
    refine W_move rfl rfl ?_
    first
      | refine W_guard_lit_t rfl ?_
      | refine W_guard_lit_f rfl ?_
      | refine W_guard_lit_u rfl ?_
      | refine W_guard_split_d rfl rfl rfl (fun hg2 => ?_) (fun hg2 => ?_)
      | refine W_guard_split_n rfl rfl rfl (fun hg2 => ?_) (fun hg2 => ?_)
      | refine W_guard_split_nb rfl rfl rfl (fun hg2 => ?_) (fun hg2 => ?_)
      | refine W_guard_split rfl rfl rfl (fun hg2 => ?_) (fun hg2 => ?_)
    all_goals try (exfalso; first | omega | (simp only [Bool.false_eq_true, reduceCtorEq] at hg2; done) | (refine absurd hg2 ?_; with_reducible assumption) | (refine absurd ?_ hg2; with_reducible assumption))
    all_goals (
     first
       | (iterate 2 refine W_guard_no rfl rfl rfl ?_)
       | (iterate 2 refine W_guard_un rfl rfl ?_)
       | (refine W_guard_yes rfl ?_
          refine W_move rfl rfl ?_
          refine W_guard_yes rfl ?_
          first
            | (refine W_geq_t rfl rfl ?_ rfl ?_; (focus (omega)))
            | (refine W_geq_f rfl rfl ?_ rfl ?_; (focus (omega)))
            | (refine W_geq rfl rfl rfl ?_))
     first
       | (refine W_pick_t rfl rfl rfl ?_)
       | (refine W_pick_f rfl rfl rfl ?_)
       | (refine W_pick_b rfl rfl rfl rfl ?_)
     refine W_nil ?_
     refine N_then_k ?_
     first
       | refine K_cond_d rfl (fun hc3 => ?_) (fun hc3 => ?_)
       | refine K_cond_n rfl (fun hc3 => ?_) (fun hc3 => ?_)
       | refine K_cond_nb rfl (fun hc3 => ?_) (fun hc3 => ?_)
       | refine K_cond_t rfl (fun hc3 => ?_) (fun hc3 => ?_)
     · try (exfalso; first | omega | (simp only [Bool.false_eq_true, reduceCtorEq] at hc3; done) | (refine absurd hc3 ?_; with_reducible assumption) | (refine absurd ?_ hc3; with_reducible assumption))
       all_goals (
        refine K_seq ?_
        refine K_region ?_
        refine W_acall hp rfl ((awake_spec w (hg.keep hp))) rfl ?_
        clear hp; intro w hp
        refine W_assign rfl rfl ?_
        refine W_nil ?_
        refine N_then_k ?_
        refine K_ret ?_
        refine N_then_ret ?_
        refine N_done1 (.inr rfl) rfl rfl ?_
        exact ⟨_, rfl, rfl, hp.nil⟩)
     · try (exfalso; first | omega | (simp only [Bool.false_eq_true, reduceCtorEq] at hc3; done) | (refine absurd hc3 ?_; with_reducible assumption) | (refine absurd ?_ hc3; with_reducible assumption))
       all_goals (
        refine K_skip ?_
        refine N_then_k ?_
        refine K_seq ?_
        refine K_region ?_
        refine W_assign rfl rfl ?_
        refine W_nil ?_
        refine N_then_k ?_
        refine K_seq ?_
        refine K_seq ?_
        refine K_region ?_
        refine W_assign rfl rfl ?_
        refine W_nil ?_
        refine N_then_k ?_
        refine K_block ?_
        refine K_loop (σ := Nat) [7, 8, 32, 33, 34, 35, 36, 37, 38, 39, 40]
            (fun k => [(7, .string ⟨(blanksF k).toArray⟩), (8, .int .i64 k)])
            (fun k w => Hp w0 [] [(b5, .cells [strV p.1, strV p.2].toArray 24)] w ∧ k ≤ m.toNat % 10)
            (fun k => 10 - k) (0) ?_ ?_ ?_
        · repeat' (first | exact sub_lst_nil (sub_nil _) | refine sub_lst rfl ?_ | (refine sub_lst_eq rfl ?_ ?_; · first | rfl | (simp; done) | (congr 1; omega)))
        · exact ⟨hp, Nat.zero_le _⟩
        · intro k w hJ
          clear hp
          obtain ⟨hp, hle⟩ := hJ
          have hkl := blanksF_length k
          rcases Nat.lt_or_ge k (m.toNat % 10) with hlt | hge
          all_goals (
           refine K_seq ?_
           refine K_seq ?_
           refine K_region ?_
           refine W_move rfl rfl ?_
           refine W_move rfl rfl ?_
           first
             | (refine W_conv_i Tryd.underlying5 Tryd.underlying3 rfl (wr_i64 ?_) rfl ?_; (focus (first | omega | (have := u8_lt ‹_›; omega))))
             | (refine W_conv_i Tryd.underlying5 Tryd.underlying3 rfl rfl rfl ?_)
           first
             | (refine W_rem rfl rfl ?_ (rem_nn ?_) rfl ?_; (focus (omega)); (focus (omega)))
             | (refine W_rem rfl rfl ?_ rfl rfl ?_; (focus (omega)))
           first
             | (refine W_lss_t rfl rfl ?_ rfl ?_; (focus (omega)))
             | (refine W_lss_f rfl rfl ?_ rfl ?_; (focus (omega)))
             | (refine W_lss rfl rfl rfl ?_)
           refine W_nil ?_
           refine N_then_k ?_
           first
             | refine K_cond_d rfl (fun hc4 => ?_) (fun hc4 => ?_)
             | refine K_cond_n rfl (fun hc4 => ?_) (fun hc4 => ?_)
             | refine K_cond_nb rfl (fun hc4 => ?_) (fun hc4 => ?_)
             | refine K_cond_t rfl (fun hc4 => ?_) (fun hc4 => ?_)
           · try (exfalso; first | omega | (simp only [Bool.false_eq_true, reduceCtorEq] at hc4; done) | (refine absurd hc4 ?_; with_reducible assumption) | (refine absurd ?_ hc4; with_reducible assumption))
             all_goals (
              refine K_skip ?_
              refine N_then_k ?_
              refine K_seq ?_
              refine K_block ?_
              refine K_region ?_
              refine W_move rfl rfl ?_
              refine W_sadd rfl rfl ?_ rfl ?_
              (focus (first | omega | (simp only [List.length_append, List.length_cons, List.length_nil, List.length_drop, List.length_take] at *; omega) | (simp; omega)))
              refine W_assign rfl rfl ?_
              refine W_nil ?_
              refine N_block_normal ?_
              refine N_then_k ?_
              refine K_region ?_
              refine W_move rfl rfl ?_
              first
                | (refine W_add rfl rfl (wr_i64 ?_) rfl ?_; (focus (omega)))
                | (refine W_add rfl rfl rfl rfl ?_)
              refine W_assign rfl rfl ?_
              refine W_nil ?_
              refine N_again (k + 1) (sub_end ?_ ?_) ?_ ?_
              · repeat' (first | exact sub_lst_nil (sub_nil _) | refine sub_lst rfl ?_ | (refine sub_lst_eq rfl ?_ ?_; · first | rfl | (simp; done) | (congr 1; omega)))
              · repeat' (first | exact sub_refl _ | exact sub_strip _ _ | refine sub_s_cons rfl ?_ | refine sub_s_lst rfl ?_ | refine sub_s_strip rfl ?_)
              · exact ⟨hp, hlt⟩
              · omega)
           · try (exfalso; first | omega | (simp only [Bool.false_eq_true, reduceCtorEq] at hc4; done) | (refine absurd hc4 ?_; with_reducible assumption) | (refine absurd ?_ hc4; with_reducible assumption))
             all_goals (
              refine K_exit ?_
              refine N_then_exit ?_
              refine N_then_exit ?_
              refine N_block_exit ?_
              refine N_then_k ?_
              refine K_seq ?_
              refine K_region ?_
              have hkl := blanksF_length k
              have hbl := parse_blanks hD (blanksF_blank k)
              refine W_fieldAddr Tryd.underlying24 rfl sz9 rfl rfl ?_
              refine W_load_s Tryd.underlying9 rfl rfl (by first | exact hp.cellF (by first | exact List.mem_cons_self | exact .tail _ (.head _) | exact .tail _ (.tail _ (.head _)) | exact .tail _ (.tail _ (.tail _ (.head _))) | exact .tail _ (.tail _ (.tail _ (.tail _ (.head _)))) | exact .tail _ (.tail _ (.tail _ (.tail _ (.tail _ (.head _))))) | exact List.mem_append_right _ (.head _) | exact List.mem_append_right _ (.tail _ (.head _)) | exact List.mem_append_right _ (.tail _ (.tail _ (.head _))) | exact .tail _ (List.mem_append_right _ (.head _)) | exact .tail _ (List.mem_append_right _ (.tail _ (.head _)))) rfl | exact hp.cellM (by first | exact List.mem_cons_self | exact .tail _ (.head _) | exact .tail _ (.tail _ (.head _)) | exact .tail _ (.tail _ (.tail _ (.head _))) | exact .tail _ (.tail _ (.tail _ (.tail _ (.head _)))) | exact .tail _ (.tail _ (.tail _ (.tail _ (.tail _ (.head _))))) | exact List.mem_append_right _ (.head _) | exact List.mem_append_right _ (.tail _ (.head _)) | exact List.mem_append_right _ (.tail _ (.tail _ (.head _))) | exact .tail _ (List.mem_append_right _ (.head _)) | exact .tail _ (List.mem_append_right _ (.tail _ (.head _)))) rfl | exact hp.cell_old0 ‹_› | (refine hp.cell_old0 ?_; assumption)) rfl ?_
              refine W_sadd rfl rfl ?_ rfl ?_
              (focus (first | omega | (simp only [List.length_append, List.length_cons, List.length_nil, List.length_drop, List.length_take] at *; omega) | (simp; omega)))
              refine W_move rfl rfl ?_
              refine W_sadd rfl rfl ?_ rfl ?_
              (focus (first | omega | (simp only [List.length_append, List.length_cons, List.length_nil, List.length_drop, List.length_take] at *; omega) | (simp; omega)))
              refine W_fieldAddr Tryd.underlying24 rfl sz9 rfl rfl ?_
              refine W_load_s Tryd.underlying9 rfl rfl (by first | exact hp.cellF (by first | exact List.mem_cons_self | exact .tail _ (.head _) | exact .tail _ (.tail _ (.head _)) | exact .tail _ (.tail _ (.tail _ (.head _))) | exact .tail _ (.tail _ (.tail _ (.tail _ (.head _)))) | exact .tail _ (.tail _ (.tail _ (.tail _ (.tail _ (.head _))))) | exact List.mem_append_right _ (.head _) | exact List.mem_append_right _ (.tail _ (.head _)) | exact List.mem_append_right _ (.tail _ (.tail _ (.head _))) | exact .tail _ (List.mem_append_right _ (.head _)) | exact .tail _ (List.mem_append_right _ (.tail _ (.head _)))) rfl | exact hp.cellM (by first | exact List.mem_cons_self | exact .tail _ (.head _) | exact .tail _ (.tail _ (.head _)) | exact .tail _ (.tail _ (.tail _ (.head _))) | exact .tail _ (.tail _ (.tail _ (.tail _ (.head _)))) | exact .tail _ (.tail _ (.tail _ (.tail _ (.tail _ (.head _))))) | exact List.mem_append_right _ (.head _) | exact List.mem_append_right _ (.tail _ (.head _)) | exact List.mem_append_right _ (.tail _ (.tail _ (.head _))) | exact .tail _ (List.mem_append_right _ (.head _)) | exact .tail _ (List.mem_append_right _ (.tail _ (.head _)))) rfl | exact hp.cell_old0 ‹_› | (refine hp.cell_old0 ?_; assumption)) rfl ?_
              refine W_sadd rfl rfl ?_ rfl ?_
              (focus (first | omega | (simp only [List.length_append, List.length_cons, List.length_nil, List.length_drop, List.length_take] at *; omega) | (simp; omega)))
              refine W_move rfl rfl ?_
              refine W_sadd rfl rfl ?_ rfl ?_
              (focus (first | omega | (simp only [List.length_append, List.length_cons, List.length_nil, List.length_drop, List.length_take] at *; omega) | (simp; omega)))
              refine W_pcall hp rfl ((fparse_spec (p.1 ++ [58] ++ blanksF k ++ p.2 ++ blanksF k) (by simp; omega)).eq (parV_ok hbl)) rfl ?_
              clear hp; intro w hp
              refine W_move rfl rfl ?_
              refine W_extract rfl rfl rfl ?_
              refine W_extract rfl rfl rfl ?_
              refine W_alloc hp zv24 rfl rfl ?_
              clear hp; intro b9 w hp
              first
                | (refine W_storeF (A := []) hp rfl sz24 rfl rfl rfl rfl ?_ ?_ ?_ rfl ?_; (focus first | exact Nat.le_of_ble_eq_true rfl | omega | (simp; omega)); (focus first | exact .inl (Nat.zero_le _) | omega); (focus first | (intro v hv; simp at hv; subst hv; rfl) | (simp [Value.oneCell']; done) | (simp [Value.oneCell', strV]; done)))
                | (refine W_storeF (A := [_]) hp rfl sz24 rfl rfl rfl rfl ?_ ?_ ?_ rfl ?_; (focus first | exact Nat.le_of_ble_eq_true rfl | omega | (simp; omega)); (focus first | exact .inl (Nat.zero_le _) | omega); (focus first | (intro v hv; simp at hv; subst hv; rfl) | (simp [Value.oneCell']; done) | (simp [Value.oneCell', strV]; done)))
                | (refine W_storeF (A := [_, _]) hp rfl sz24 rfl rfl rfl rfl ?_ ?_ ?_ rfl ?_; (focus first | exact Nat.le_of_ble_eq_true rfl | omega | (simp; omega)); (focus first | exact .inl (Nat.zero_le _) | omega); (focus first | (intro v hv; simp at hv; subst hv; rfl) | (simp [Value.oneCell']; done) | (simp [Value.oneCell', strV]; done)))
                | (refine W_storeF (A := [_, _, _]) hp rfl sz24 rfl rfl rfl rfl ?_ ?_ ?_ rfl ?_; (focus first | exact Nat.le_of_ble_eq_true rfl | omega | (simp; omega)); (focus first | exact .inl (Nat.zero_le _) | omega); (focus first | (intro v hv; simp at hv; subst hv; rfl) | (simp [Value.oneCell']; done) | (simp [Value.oneCell', strV]; done)))
                | (refine W_storeF (A := [_, _, _, _]) hp rfl sz24 rfl rfl rfl rfl ?_ ?_ ?_ rfl ?_; (focus first | exact Nat.le_of_ble_eq_true rfl | omega | (simp; omega)); (focus first | exact .inl (Nat.zero_le _) | omega); (focus first | (intro v hv; simp at hv; subst hv; rfl) | (simp [Value.oneCell']; done) | (simp [Value.oneCell', strV]; done)))
                | (refine W_storeF (A := [_, _, _, _, _]) hp rfl sz24 rfl rfl rfl rfl ?_ ?_ ?_ rfl ?_; (focus first | exact Nat.le_of_ble_eq_true rfl | omega | (simp; omega)); (focus first | exact .inl (Nat.zero_le _) | omega); (focus first | (intro v hv; simp at hv; subst hv; rfl) | (simp [Value.oneCell']; done) | (simp [Value.oneCell', strV]; done)))
                | (refine W_storeM (A := []) hp rfl sz24 rfl rfl rfl rfl ?_ ?_ ?_ rfl ?_; (focus first | exact Nat.le_of_ble_eq_true rfl | omega | (simp; omega)); (focus first | exact .inl (Nat.zero_le _) | omega); (focus first | (intro v hv; simp at hv; subst hv; rfl) | (simp [Value.oneCell']; done) | (simp [Value.oneCell', strV]; done)))
                | (refine W_storeM (A := [_]) hp rfl sz24 rfl rfl rfl rfl ?_ ?_ ?_ rfl ?_; (focus first | exact Nat.le_of_ble_eq_true rfl | omega | (simp; omega)); (focus first | exact .inl (Nat.zero_le _) | omega); (focus first | (intro v hv; simp at hv; subst hv; rfl) | (simp [Value.oneCell']; done) | (simp [Value.oneCell', strV]; done)))
                | (refine W_storeM (A := [_, _]) hp rfl sz24 rfl rfl rfl rfl ?_ ?_ ?_ rfl ?_; (focus first | exact Nat.le_of_ble_eq_true rfl | omega | (simp; omega)); (focus first | exact .inl (Nat.zero_le _) | omega); (focus first | (intro v hv; simp at hv; subst hv; rfl) | (simp [Value.oneCell']; done) | (simp [Value.oneCell', strV]; done)))
              clear hp; intro w hp
              simp only [List.nil_append, List.cons_append, List.append_nil, List.take_succ_cons, List.take_zero, List.drop_succ_cons, List.drop_zero, List.take_nil, List.drop_nil, Nat.zero_add, Nat.add_zero, Nat.reduceAdd, Int.reduceToNat, Int.toNat_natCast, Nat.reduceMul, Nat.mul_one, Nat.zero_mul] at hp
              refine W_assign rfl rfl ?_
              refine W_nil ?_
              refine N_then_k ?_
              refine K_seq ?_
              refine K_region ?_
              refine W_move rfl rfl ?_
              refine W_sadd rfl rfl ?_ rfl ?_
              (focus (first | omega | (simp only [List.length_append, List.length_cons, List.length_nil, List.length_drop, List.length_take] at *; omega) | (simp; omega)))
              refine W_pcall hp rfl ((fparse_spec (32 :: s) (by simp; omega)).eq (parV_bad hbf (by decide))) rfl ?_
              clear hp; intro w hp
              refine W_move rfl rfl ?_
              refine W_extract rfl rfl rfl ?_
              refine W_extract rfl rfl rfl ?_
              refine W_alloc hp zv24 rfl rfl ?_
              clear hp; intro b11 w hp
              first
                | (refine W_storeF (A := []) hp rfl sz24 rfl rfl rfl rfl ?_ ?_ ?_ rfl ?_; (focus first | exact Nat.le_of_ble_eq_true rfl | omega | (simp; omega)); (focus first | exact .inl (Nat.zero_le _) | omega); (focus first | (intro v hv; simp at hv; subst hv; rfl) | (simp [Value.oneCell']; done) | (simp [Value.oneCell', strV]; done)))
                | (refine W_storeF (A := [_]) hp rfl sz24 rfl rfl rfl rfl ?_ ?_ ?_ rfl ?_; (focus first | exact Nat.le_of_ble_eq_true rfl | omega | (simp; omega)); (focus first | exact .inl (Nat.zero_le _) | omega); (focus first | (intro v hv; simp at hv; subst hv; rfl) | (simp [Value.oneCell']; done) | (simp [Value.oneCell', strV]; done)))
                | (refine W_storeF (A := [_, _]) hp rfl sz24 rfl rfl rfl rfl ?_ ?_ ?_ rfl ?_; (focus first | exact Nat.le_of_ble_eq_true rfl | omega | (simp; omega)); (focus first | exact .inl (Nat.zero_le _) | omega); (focus first | (intro v hv; simp at hv; subst hv; rfl) | (simp [Value.oneCell']; done) | (simp [Value.oneCell', strV]; done)))
                | (refine W_storeF (A := [_, _, _]) hp rfl sz24 rfl rfl rfl rfl ?_ ?_ ?_ rfl ?_; (focus first | exact Nat.le_of_ble_eq_true rfl | omega | (simp; omega)); (focus first | exact .inl (Nat.zero_le _) | omega); (focus first | (intro v hv; simp at hv; subst hv; rfl) | (simp [Value.oneCell']; done) | (simp [Value.oneCell', strV]; done)))
                | (refine W_storeF (A := [_, _, _, _]) hp rfl sz24 rfl rfl rfl rfl ?_ ?_ ?_ rfl ?_; (focus first | exact Nat.le_of_ble_eq_true rfl | omega | (simp; omega)); (focus first | exact .inl (Nat.zero_le _) | omega); (focus first | (intro v hv; simp at hv; subst hv; rfl) | (simp [Value.oneCell']; done) | (simp [Value.oneCell', strV]; done)))
                | (refine W_storeF (A := [_, _, _, _, _]) hp rfl sz24 rfl rfl rfl rfl ?_ ?_ ?_ rfl ?_; (focus first | exact Nat.le_of_ble_eq_true rfl | omega | (simp; omega)); (focus first | exact .inl (Nat.zero_le _) | omega); (focus first | (intro v hv; simp at hv; subst hv; rfl) | (simp [Value.oneCell']; done) | (simp [Value.oneCell', strV]; done)))
                | (refine W_storeM (A := []) hp rfl sz24 rfl rfl rfl rfl ?_ ?_ ?_ rfl ?_; (focus first | exact Nat.le_of_ble_eq_true rfl | omega | (simp; omega)); (focus first | exact .inl (Nat.zero_le _) | omega); (focus first | (intro v hv; simp at hv; subst hv; rfl) | (simp [Value.oneCell']; done) | (simp [Value.oneCell', strV]; done)))
                | (refine W_storeM (A := [_]) hp rfl sz24 rfl rfl rfl rfl ?_ ?_ ?_ rfl ?_; (focus first | exact Nat.le_of_ble_eq_true rfl | omega | (simp; omega)); (focus first | exact .inl (Nat.zero_le _) | omega); (focus first | (intro v hv; simp at hv; subst hv; rfl) | (simp [Value.oneCell']; done) | (simp [Value.oneCell', strV]; done)))
                | (refine W_storeM (A := [_, _]) hp rfl sz24 rfl rfl rfl rfl ?_ ?_ ?_ rfl ?_; (focus first | exact Nat.le_of_ble_eq_true rfl | omega | (simp; omega)); (focus first | exact .inl (Nat.zero_le _) | omega); (focus first | (intro v hv; simp at hv; subst hv; rfl) | (simp [Value.oneCell']; done) | (simp [Value.oneCell', strV]; done)))
              clear hp; intro w hp
              simp only [List.nil_append, List.cons_append, List.append_nil, List.take_succ_cons, List.take_zero, List.drop_succ_cons, List.drop_zero, List.take_nil, List.drop_nil, Nat.zero_add, Nat.add_zero, Nat.reduceAdd, Int.reduceToNat, Int.toNat_natCast, Nat.reduceMul, Nat.mul_one, Nat.zero_mul] at hp
              refine W_assign rfl rfl ?_
              refine W_nil ?_
              refine N_then_k ?_
              refine K_seq ?_
              refine K_region ?_
              refine W_fieldAddr Tryd.underlying24 rfl sz9 rfl rfl ?_
              refine W_load_s Tryd.underlying9 rfl rfl (by first | exact hp.cellF (by first | exact List.mem_cons_self | exact .tail _ (.head _) | exact .tail _ (.tail _ (.head _)) | exact .tail _ (.tail _ (.tail _ (.head _))) | exact .tail _ (.tail _ (.tail _ (.tail _ (.head _)))) | exact .tail _ (.tail _ (.tail _ (.tail _ (.tail _ (.head _))))) | exact List.mem_append_right _ (.head _) | exact List.mem_append_right _ (.tail _ (.head _)) | exact List.mem_append_right _ (.tail _ (.tail _ (.head _))) | exact .tail _ (List.mem_append_right _ (.head _)) | exact .tail _ (List.mem_append_right _ (.tail _ (.head _)))) rfl | exact hp.cellM (by first | exact List.mem_cons_self | exact .tail _ (.head _) | exact .tail _ (.tail _ (.head _)) | exact .tail _ (.tail _ (.tail _ (.head _))) | exact .tail _ (.tail _ (.tail _ (.tail _ (.head _)))) | exact .tail _ (.tail _ (.tail _ (.tail _ (.tail _ (.head _))))) | exact List.mem_append_right _ (.head _) | exact List.mem_append_right _ (.tail _ (.head _)) | exact List.mem_append_right _ (.tail _ (.tail _ (.head _))) | exact .tail _ (List.mem_append_right _ (.head _)) | exact .tail _ (List.mem_append_right _ (.tail _ (.head _)))) rfl | exact hp.cell_old0 ‹_› | (refine hp.cell_old0 ?_; assumption)) rfl ?_
              refine W_sadd rfl rfl ?_ rfl ?_
              (focus (first | omega | (simp only [List.length_append, List.length_cons, List.length_nil, List.length_drop, List.length_take] at *; omega) | (simp; omega)))
              refine W_fieldAddr Tryd.underlying24 rfl sz9 rfl rfl ?_
              refine W_load_s Tryd.underlying9 rfl rfl (by first | exact hp.cellF (by first | exact List.mem_cons_self | exact .tail _ (.head _) | exact .tail _ (.tail _ (.head _)) | exact .tail _ (.tail _ (.tail _ (.head _))) | exact .tail _ (.tail _ (.tail _ (.tail _ (.head _)))) | exact .tail _ (.tail _ (.tail _ (.tail _ (.tail _ (.head _))))) | exact List.mem_append_right _ (.head _) | exact List.mem_append_right _ (.tail _ (.head _)) | exact List.mem_append_right _ (.tail _ (.tail _ (.head _))) | exact .tail _ (List.mem_append_right _ (.head _)) | exact .tail _ (List.mem_append_right _ (.tail _ (.head _)))) rfl | exact hp.cellM (by first | exact List.mem_cons_self | exact .tail _ (.head _) | exact .tail _ (.tail _ (.head _)) | exact .tail _ (.tail _ (.tail _ (.head _))) | exact .tail _ (.tail _ (.tail _ (.tail _ (.head _)))) | exact .tail _ (.tail _ (.tail _ (.tail _ (.tail _ (.head _))))) | exact List.mem_append_right _ (.head _) | exact List.mem_append_right _ (.tail _ (.head _)) | exact List.mem_append_right _ (.tail _ (.tail _ (.head _))) | exact .tail _ (List.mem_append_right _ (.head _)) | exact .tail _ (List.mem_append_right _ (.tail _ (.head _)))) rfl | exact hp.cell_old0 ‹_› | (refine hp.cell_old0 ?_; assumption)) rfl ?_
              refine W_sadd rfl rfl ?_ rfl ?_
              (focus (first | omega | (simp only [List.length_append, List.length_cons, List.length_nil, List.length_drop, List.length_take] at *; omega) | (simp; omega)))
              refine W_pcall hp rfl ((fparse_spec (p.1 ++ [32, 58] ++ p.2) (by simp; omega)).eq (parV_bad hco (by decide))) rfl ?_
              clear hp; intro w hp
              refine W_move rfl rfl ?_
              refine W_extract rfl rfl rfl ?_
              refine W_extract rfl rfl rfl ?_
              refine W_alloc hp zv24 rfl rfl ?_
              clear hp; intro b13 w hp
              first
                | (refine W_storeF (A := []) hp rfl sz24 rfl rfl rfl rfl ?_ ?_ ?_ rfl ?_; (focus first | exact Nat.le_of_ble_eq_true rfl | omega | (simp; omega)); (focus first | exact .inl (Nat.zero_le _) | omega); (focus first | (intro v hv; simp at hv; subst hv; rfl) | (simp [Value.oneCell']; done) | (simp [Value.oneCell', strV]; done)))
                | (refine W_storeF (A := [_]) hp rfl sz24 rfl rfl rfl rfl ?_ ?_ ?_ rfl ?_; (focus first | exact Nat.le_of_ble_eq_true rfl | omega | (simp; omega)); (focus first | exact .inl (Nat.zero_le _) | omega); (focus first | (intro v hv; simp at hv; subst hv; rfl) | (simp [Value.oneCell']; done) | (simp [Value.oneCell', strV]; done)))
                | (refine W_storeF (A := [_, _]) hp rfl sz24 rfl rfl rfl rfl ?_ ?_ ?_ rfl ?_; (focus first | exact Nat.le_of_ble_eq_true rfl | omega | (simp; omega)); (focus first | exact .inl (Nat.zero_le _) | omega); (focus first | (intro v hv; simp at hv; subst hv; rfl) | (simp [Value.oneCell']; done) | (simp [Value.oneCell', strV]; done)))
                | (refine W_storeF (A := [_, _, _]) hp rfl sz24 rfl rfl rfl rfl ?_ ?_ ?_ rfl ?_; (focus first | exact Nat.le_of_ble_eq_true rfl | omega | (simp; omega)); (focus first | exact .inl (Nat.zero_le _) | omega); (focus first | (intro v hv; simp at hv; subst hv; rfl) | (simp [Value.oneCell']; done) | (simp [Value.oneCell', strV]; done)))
                | (refine W_storeF (A := [_, _, _, _]) hp rfl sz24 rfl rfl rfl rfl ?_ ?_ ?_ rfl ?_; (focus first | exact Nat.le_of_ble_eq_true rfl | omega | (simp; omega)); (focus first | exact .inl (Nat.zero_le _) | omega); (focus first | (intro v hv; simp at hv; subst hv; rfl) | (simp [Value.oneCell']; done) | (simp [Value.oneCell', strV]; done)))
                | (refine W_storeF (A := [_, _, _, _, _]) hp rfl sz24 rfl rfl rfl rfl ?_ ?_ ?_ rfl ?_; (focus first | exact Nat.le_of_ble_eq_true rfl | omega | (simp; omega)); (focus first | exact .inl (Nat.zero_le _) | omega); (focus first | (intro v hv; simp at hv; subst hv; rfl) | (simp [Value.oneCell']; done) | (simp [Value.oneCell', strV]; done)))
                | (refine W_storeM (A := []) hp rfl sz24 rfl rfl rfl rfl ?_ ?_ ?_ rfl ?_; (focus first | exact Nat.le_of_ble_eq_true rfl | omega | (simp; omega)); (focus first | exact .inl (Nat.zero_le _) | omega); (focus first | (intro v hv; simp at hv; subst hv; rfl) | (simp [Value.oneCell']; done) | (simp [Value.oneCell', strV]; done)))
                | (refine W_storeM (A := [_]) hp rfl sz24 rfl rfl rfl rfl ?_ ?_ ?_ rfl ?_; (focus first | exact Nat.le_of_ble_eq_true rfl | omega | (simp; omega)); (focus first | exact .inl (Nat.zero_le _) | omega); (focus first | (intro v hv; simp at hv; subst hv; rfl) | (simp [Value.oneCell']; done) | (simp [Value.oneCell', strV]; done)))
                | (refine W_storeM (A := [_, _]) hp rfl sz24 rfl rfl rfl rfl ?_ ?_ ?_ rfl ?_; (focus first | exact Nat.le_of_ble_eq_true rfl | omega | (simp; omega)); (focus first | exact .inl (Nat.zero_le _) | omega); (focus first | (intro v hv; simp at hv; subst hv; rfl) | (simp [Value.oneCell']; done) | (simp [Value.oneCell', strV]; done)))
              clear hp; intro w hp
              simp only [List.nil_append, List.cons_append, List.append_nil, List.take_succ_cons, List.take_zero, List.drop_succ_cons, List.drop_zero, List.take_nil, List.drop_nil, Nat.zero_add, Nat.add_zero, Nat.reduceAdd, Int.reduceToNat, Int.toNat_natCast, Nat.reduceMul, Nat.mul_one, Nat.zero_mul] at hp
              refine W_assign rfl rfl ?_
              refine W_nil ?_
              refine N_then_k ?_
              refine K_seq ?_
              refine K_region ?_
              refine W_move rfl rfl ?_
              first
                | (refine W_val rfl (inb_of rfl) (R_bin (a := .nilIface) (v := .bool true) rfl rfl (by kernel_rfl)) ?_)
                | (refine W_val rfl (inb_of rfl) (R_bin (v := .bool false) rfl rfl (by kernel_rfl)) ?_)
              refine W_move rfl rfl ?_
              first
                | refine W_guard_lit_t rfl ?_
                | refine W_guard_lit_f rfl ?_
                | refine W_guard_lit_u rfl ?_
                | refine W_guard_split_d rfl rfl rfl (fun hg5 => ?_) (fun hg5 => ?_)
                | refine W_guard_split_n rfl rfl rfl (fun hg5 => ?_) (fun hg5 => ?_)
                | refine W_guard_split_nb rfl rfl rfl (fun hg5 => ?_) (fun hg5 => ?_)
                | refine W_guard_split rfl rfl rfl (fun hg5 => ?_) (fun hg5 => ?_)
              all_goals try (exfalso; first | omega | (simp only [Bool.false_eq_true, reduceCtorEq] at hg5; done) | (refine absurd hg5 ?_; with_reducible assumption) | (refine absurd ?_ hg5; with_reducible assumption))
              all_goals (
               first
                 | (iterate 3 refine W_guard_no rfl rfl rfl ?_)
                 | (iterate 3 refine W_guard_un rfl rfl ?_)
                 | (refine W_guard_yes rfl ?_
                    refine W_load_own Tryd.underlying24 rfl sz24 rfl hp (by first | exact List.mem_cons_self | exact .tail _ (.head _) | exact .tail _ (.tail _ (.head _)) | exact .tail _ (.tail _ (.tail _ (.head _))) | exact .tail _ (.tail _ (.tail _ (.tail _ (.head _)))) | exact .tail _ (.tail _ (.tail _ (.tail _ (.tail _ (.head _))))) | exact List.mem_append_right _ (.head _) | exact List.mem_append_right _ (.tail _ (.head _)) | exact List.mem_append_right _ (.tail _ (.tail _ (.head _))) | exact .tail _ (List.mem_append_right _ (.head _)) | exact .tail _ (List.mem_append_right _ (.tail _ (.head _)))) rfl rfl rfl ?_
                    refine W_guard_yes rfl ?_
                    refine W_load_own Tryd.underlying24 rfl sz24 rfl hp (by first | exact List.mem_cons_self | exact .tail _ (.head _) | exact .tail _ (.tail _ (.head _)) | exact .tail _ (.tail _ (.tail _ (.head _))) | exact .tail _ (.tail _ (.tail _ (.tail _ (.head _)))) | exact .tail _ (.tail _ (.tail _ (.tail _ (.tail _ (.head _))))) | exact List.mem_append_right _ (.head _) | exact List.mem_append_right _ (.tail _ (.head _)) | exact List.mem_append_right _ (.tail _ (.tail _ (.head _))) | exact .tail _ (List.mem_append_right _ (.head _)) | exact .tail _ (List.mem_append_right _ (.tail _ (.head _)))) rfl rfl rfl ?_
                    refine W_guard_yes rfl ?_
                    refine W_aeql_t (by kernel_rfl) rfl rfl ?_ ?_ rfl ?_
                    (focus (first | rfl | assumption))
                    (focus (first | rfl | kernel_rfl)))
               first
                 | (refine W_pick_t rfl rfl rfl ?_)
                 | (refine W_pick_f rfl rfl rfl ?_)
                 | (refine W_pick_b rfl rfl rfl rfl ?_)
               refine W_move rfl rfl ?_
               first
                 | refine W_guard_lit_t rfl ?_
                 | refine W_guard_lit_f rfl ?_
                 | refine W_guard_lit_u rfl ?_
                 | refine W_guard_split_d rfl rfl rfl (fun hg6 => ?_) (fun hg6 => ?_)
                 | refine W_guard_split_n rfl rfl rfl (fun hg6 => ?_) (fun hg6 => ?_)
                 | refine W_guard_split_nb rfl rfl rfl (fun hg6 => ?_) (fun hg6 => ?_)
                 | refine W_guard_split rfl rfl rfl (fun hg6 => ?_) (fun hg6 => ?_)
               all_goals try (exfalso; first | omega | (simp only [Bool.false_eq_true, reduceCtorEq] at hg6; done) | (refine absurd hg6 ?_; with_reducible assumption) | (refine absurd ?_ hg6; with_reducible assumption))
               all_goals (
                first
                  | (iterate 2 refine W_guard_no rfl rfl rfl ?_)
                  | (iterate 2 refine W_guard_un rfl rfl ?_)
                  | (refine W_guard_yes rfl ?_
                     refine W_move rfl rfl ?_
                     refine W_guard_yes rfl ?_
                     refine W_acall hp rfl ((wrong_spec w (hg.keep hp) 400 0)) rfl ?_
                     clear hp; intro w hp)
                first
                  | (refine W_pick_t rfl rfl rfl ?_)
                  | (refine W_pick_f rfl rfl rfl ?_)
                  | (refine W_pick_b rfl rfl rfl rfl ?_)
                refine W_move rfl rfl ?_
                first
                  | refine W_guard_lit_t rfl ?_
                  | refine W_guard_lit_f rfl ?_
                  | refine W_guard_lit_u rfl ?_
                  | refine W_guard_split_d rfl rfl rfl (fun hg7 => ?_) (fun hg7 => ?_)
                  | refine W_guard_split_n rfl rfl rfl (fun hg7 => ?_) (fun hg7 => ?_)
                  | refine W_guard_split_nb rfl rfl rfl (fun hg7 => ?_) (fun hg7 => ?_)
                  | refine W_guard_split rfl rfl rfl (fun hg7 => ?_) (fun hg7 => ?_)
                all_goals try (exfalso; first | omega | (simp only [Bool.false_eq_true, reduceCtorEq] at hg7; done) | (refine absurd hg7 ?_; with_reducible assumption) | (refine absurd ?_ hg7; with_reducible assumption))
                all_goals (
                 first
                   | (iterate 2 refine W_guard_no rfl rfl rfl ?_)
                   | (iterate 2 refine W_guard_un rfl rfl ?_)
                   | (refine W_guard_yes rfl ?_
                      refine W_move rfl rfl ?_
                      refine W_guard_yes rfl ?_
                      refine W_acall hp rfl ((wrong_spec w (hg.keep hp) 400 0)) rfl ?_
                      clear hp; intro w hp)
                 first
                   | (refine W_pick_t rfl rfl rfl ?_)
                   | (refine W_pick_f rfl rfl rfl ?_)
                   | (refine W_pick_b rfl rfl rfl rfl ?_)
                 refine W_assign rfl rfl ?_
                 refine W_nil ?_
                 refine N_then_k ?_
                 refine K_ret ?_
                 refine N_done1 (.inr rfl) rfl rfl ?_
                 exact ⟨_, rfl, rfl, hp.nil⟩)))))))))

theorem FieldBlanks_int (w0 : World) (hg : ErrT w0) (s : List UInt8) (c : Int) (hc : 0 ≤ c ∧ c ≤ 255) (hs : s.length ≤ 2000000) : PureAt Tryd.prog 6 [.string ⟨s.toArray⟩, .int .u8 c] (.bool true) w0 := by
  obtain ⟨n, rfl⟩ : ∃ n : UInt8, (n.toNat : Int) = c := ⟨UInt8.ofNat c.toNat, by simp [UInt8.toNat_ofNat']; omega⟩
  exact FieldBlanks_walk w0 hg s n hs

end Go.Proofs.YtiimcopdkjbijaaDoor
