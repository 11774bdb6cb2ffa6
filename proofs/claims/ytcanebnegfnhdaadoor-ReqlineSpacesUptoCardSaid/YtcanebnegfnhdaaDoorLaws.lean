/-
  The fixed examples of package reqline, walked.
-/
import Derived.Test.YtcanebnegfnhdaaDoorReqR
import Derived.Test.YtcanebnegfnhdaaDoorReqM
namespace Go.Proofs.YtcanebnegfnhdaaDoor
open Go.Sx Go.RowKit
set_option linter.unusedVariables false
set_option linter.unusedSimpArgs false
set_option maxRecDepth 100000

theorem req_cases (s : List UInt8) : (∃ m t k, reqL (splitB 32 s) = (m, t, k, 0, 0) ∧ reqText m t k = s) ∨ ∃ st a, st ≠ 0 ∧ reqL (splitB 32 s) = ([], [], 0, st, a) := by
  obtain ⟨L, hL⟩ : ∃ L, L = splitB 32 s := ⟨_, rfl⟩
  rw [← hL]
  by_cases h3 : L.length = 3
  · obtain ⟨m, t, v, rfl⟩ := three_list h3
    cases h1 : isToken m
    · exact .inr ⟨_, _, by decide, reqL1 h1⟩
    cases h2 : tgtB t
    · exact .inr ⟨_, _, by decide, reqL2 h1 h2⟩
    cases h4 : verB v
    · exact .inr ⟨_, _, by decide, reqL3 h1 h2 h4⟩
    cases h5 : supB v
    · exact .inr ⟨_, _, by decide, reqL4 h1 h2 h4 h5⟩
    refine .inl ⟨_, _, _, reqL5 h1 h2 h4 h5, ?_⟩
    rw [split_three hL]
    unfold supB at h5
    simp only [Bool.or_eq_true, decide_eq_true_eq] at h5
    rcases h5 with rfl | rfl
    · unfold reqText; rw [if_pos (by rfl)]; simp
    · unfold reqText; rw [if_neg (by decide)]; simp
  · exact .inr ⟨_, _, by decide, reqL_no h3⟩
theorem reqV_ok {s m t : List UInt8} {k : Int} (h : reqL (splitB 32 s) = (m, t, k, 0, 0)) : reqV (reqL (splitB 32 s)) = .tuple #[.agg #[strV m, strV t, .int .i64 k], .nilIface] := by rw [h]; rfl
theorem reqV_bad {s : List UInt8} {st a : Int} (hs : st ≠ 0) (h : reqL (splitB 32 s) = ([], [], 0, st, a)) : reqV (reqL (splitB 32 s)) = .tuple #[.agg #[strV [], strV [], .int .i64 0], fltV st a] := by rw [h]; unfold reqV; simp only []; rw [if_neg hs]
theorem rreqV_of {s m t : List UInt8} {k st a : Int} (h : reqL (splitB 32 s) = (m, t, k, st, a)) : rreqV (reqL (splitB 32 s)) = .tuple #[.agg #[strV m, strV t, .int .i64 k], .int .i64 st, .int .i64 a] := by rw [h]; rfl
theorem ex1 : reqL (splitB 32 [71, 69, 84, 32, 47, 97, 32, 72, 84, 84, 80, 47, 49, 46, 49]) = ([71, 69, 84], [47, 97], 1, 0, 0) := by decide +kernel
theorem ex2 : reqL (splitB 32 [71, 69, 84, 32, 47, 97, 32, 72, 84, 84, 80, 47, 50, 46, 48]) = ([], [], 0, 505, 7) := by decide +kernel
theorem ex3 : reqL (splitB 32 [71, 69, 84, 32, 32, 47, 97, 32, 72, 84, 84, 80, 47, 49, 46, 49]) = ([], [], 0, 400, 0) := by decide +kernel
theorem ex4 : reqText [71, 69, 84] [47, 97] 1 = [71, 69, 84, 32, 47, 97, 32, 72, 84, 84, 80, 47, 49, 46, 49] := by decide +kernel

theorem wrong_spec (w0 : World) (hg : ErrT w0) (s k : Int) : PureAt Tryd.prog 11 [fltV s k, .int .i64 s, .int .i64 k] (.bool true) w0 := by
  refine PureAt.intro go11 Tryd.func11 rfl rfl fun hp => ?_
  refine (fun (hk : ∀ w, Hp w0 [] [] w → K _ _ _ _ _ w) => hk w0 hp) fun w hp => ?_
  refine K_seq ?_
  refine K_region ?_
  refine W_assign rfl rfl ?_
  refine W_nil ?_
  refine N_then_k ?_
  refine K_seq ?_
  refine K_region ?_
  refine W_move rfl rfl ?_
  refine W_acall hp rfl ((fault_status w (hg.keep hp) s k)) rfl ?_
  clear hp; intro w hp
  refine W_move rfl rfl ?_
  refine W_extract rfl rfl rfl ?_
  refine W_extract rfl rfl rfl ?_
  refine W_assign rfl rfl ?_
  refine W_assign rfl rfl ?_
  refine W_nil ?_
  refine N_then_k ?_
  refine K_seq ?_
  refine K_region ?_
  refine W_move rfl rfl ?_
  refine W_acall hp rfl ((fault_at w (hg.keep hp) s k)) rfl ?_
  clear hp; intro w hp
  refine W_move rfl rfl ?_
  refine W_extract rfl rfl rfl ?_
  refine W_extract rfl rfl rfl ?_
  refine W_assign rfl rfl ?_
  refine W_assign rfl rfl ?_
  refine W_nil ?_
  refine N_then_k ?_
  refine K_seq ?_
  refine K_region ?_
  refine W_move rfl rfl ?_
  refine W_move rfl rfl ?_
  first
    | refine W_guard_lit_t rfl ?_
    | refine W_guard_lit_f rfl ?_
    | refine W_guard_lit_u rfl ?_
    | refine W_guard_split_d rfl rfl rfl (fun hg1 => ?_) (fun hg1 => ?_)
    | refine W_guard_split_n rfl rfl rfl (fun hg1 => ?_) (fun hg1 => ?_)
    | refine W_guard_split_nb rfl rfl rfl (fun hg1 => ?_) (fun hg1 => ?_)
    | refine W_guard_split rfl rfl rfl (fun hg1 => ?_) (fun hg1 => ?_)
  all_goals try (exfalso; first | omega | (simp only [Bool.false_eq_true, reduceCtorEq] at hg1; done) | (refine absurd hg1 ?_; with_reducible assumption) | (refine absurd ?_ hg1; with_reducible assumption))
  all_goals (
   first
     | (iterate 3 refine W_guard_no rfl rfl rfl ?_)
     | (iterate 3 refine W_guard_un rfl rfl ?_)
     | (refine W_guard_yes rfl ?_
        refine W_move rfl rfl ?_
        refine W_guard_yes rfl ?_
        refine W_move rfl rfl ?_
        refine W_guard_yes rfl ?_
        first
          | (refine W_eql_t rfl rfl ?_ rfl ?_; (focus (omega)))
          | (refine W_eql_f rfl rfl ?_ rfl ?_; (focus (omega)))
          | (refine W_eql rfl rfl rfl ?_))
   first
     | (refine W_pick_t rfl rfl rfl ?_)
     | (refine W_pick_f rfl rfl rfl ?_)
     | (refine W_pick_b rfl rfl rfl rfl ?_)
   refine W_move rfl rfl ?_
   first
     | refine W_guard_lit_t rfl ?_
     | refine W_guard_lit_f rfl ?_
     | refine W_guard_lit_u rfl ?_
     | refine W_guard_split_d rfl rfl rfl (fun hg2 => ?_) (fun hg2 => ?_)
     | refine W_guard_split_n rfl rfl rfl (fun hg2 => ?_) (fun hg2 => ?_)
     | refine W_guard_split_nb rfl rfl rfl (fun hg2 => ?_) (fun hg2 => ?_)
     | refine W_guard_split rfl rfl rfl (fun hg2 => ?_) (fun hg2 => ?_)
   all_goals try (exfalso; first | omega | (simp only [Bool.false_eq_true, reduceCtorEq] at hg2; done) | (refine absurd hg2 ?_; with_reducible assumption) | (refine absurd ?_ hg2; with_reducible assumption))
   all_goals (
    first
      | (refine W_guard_no rfl rfl rfl ?_)
      | (refine W_guard_un rfl rfl ?_)
      | (refine W_guard_yes rfl ?_
         refine W_move rfl rfl ?_)
    first
      | (refine W_pick_t rfl rfl rfl ?_)
      | (refine W_pick_f rfl rfl rfl ?_)
      | (refine W_pick_b rfl rfl rfl rfl ?_)
    refine W_move rfl rfl ?_
    first
      | refine W_guard_lit_t rfl ?_
      | refine W_guard_lit_f rfl ?_
      | refine W_guard_lit_u rfl ?_
      | refine W_guard_split_d rfl rfl rfl (fun hg3 => ?_) (fun hg3 => ?_)
      | refine W_guard_split_n rfl rfl rfl (fun hg3 => ?_) (fun hg3 => ?_)
      | refine W_guard_split_nb rfl rfl rfl (fun hg3 => ?_) (fun hg3 => ?_)
      | refine W_guard_split rfl rfl rfl (fun hg3 => ?_) (fun hg3 => ?_)
    all_goals try (exfalso; first | omega | (simp only [Bool.false_eq_true, reduceCtorEq] at hg3; done) | (refine absurd hg3 ?_; with_reducible assumption) | (refine absurd ?_ hg3; with_reducible assumption))
    all_goals (
     first
       | (iterate 3 refine W_guard_no rfl rfl rfl ?_)
       | (iterate 3 refine W_guard_un rfl rfl ?_)
       | (refine W_guard_yes rfl ?_
          refine W_move rfl rfl ?_
          refine W_guard_yes rfl ?_
          refine W_move rfl rfl ?_
          refine W_guard_yes rfl ?_
          first
            | (refine W_eql_t rfl rfl ?_ rfl ?_; (focus (omega)))
            | (refine W_eql_f rfl rfl ?_ rfl ?_; (focus (omega)))
            | (refine W_eql rfl rfl rfl ?_))
     first
       | (refine W_pick_t rfl rfl rfl ?_)
       | (refine W_pick_f rfl rfl rfl ?_)
       | (refine W_pick_b rfl rfl rfl rfl ?_)
     refine W_assign rfl rfl ?_
     refine W_nil ?_
     refine N_then_k ?_
     refine K_ret ?_
     refine N_done1 (.inr rfl) rfl rfl ?_
     exact ⟨_, rfl, rfl, hp.nil⟩)))

theorem awake_spec (w0 : World) (hg : ErrT w0) (hR : RulesT w0) (hO : OthersT w0) : PureAt Tryd.prog 8 [] (.bool true) w0 := by
  have hm4 : (methF 4).length = 6 := rfl
  refine PureAt.intro go8 Tryd.func8 rfl rfl fun hp => ?_
  refine (fun (hk : ∀ w, Hp w0 [] [] w → K _ _ _ _ _ w) => hk w0 hp) fun w hp => ?_
  refine K_seq ?_
  refine K_region ?_
  refine W_assign rfl rfl ?_
  refine W_nil ?_
  refine N_then_k ?_
  refine K_seq ?_
  refine K_region ?_
  refine W_acall hp rfl (((parse_spec w (hR.keep hp) [71, 69, 84, 32, 47, 97, 32, 72, 84, 84, 80, 47, 49, 46, 49] (by decide)).eq (reqV_ok ex1))) rfl ?_
  clear hp; intro w hp
  refine W_move rfl rfl ?_
  refine W_extract rfl rfl rfl ?_
  refine W_extract rfl rfl rfl ?_
  refine W_alloc hp zv24 rfl rfl ?_
  clear hp; intro b1 w hp
  first
    | (refine W_storeF (A := []) hp rfl sz24 rfl rfl rfl rfl ?_ ?_ ?_ rfl ?_; (focus first | exact Nat.le_of_ble_eq_true rfl | omega | (simp; omega)); (focus first | exact .inl (Nat.zero_le _) | omega); (focus first | (intro v hv; simp at hv; subst hv; rfl) | (simp [Value.oneCell']; done) | (simp [Value.oneCell', strV]; done) | (simp [Value.cells, Value.oneCell', strV]; done)))
    | (refine W_storeF (A := [_]) hp rfl sz24 rfl rfl rfl rfl ?_ ?_ ?_ rfl ?_; (focus first | exact Nat.le_of_ble_eq_true rfl | omega | (simp; omega)); (focus first | exact .inl (Nat.zero_le _) | omega); (focus first | (intro v hv; simp at hv; subst hv; rfl) | (simp [Value.oneCell']; done) | (simp [Value.oneCell', strV]; done) | (simp [Value.cells, Value.oneCell', strV]; done)))
    | (refine W_storeF (A := [_, _]) hp rfl sz24 rfl rfl rfl rfl ?_ ?_ ?_ rfl ?_; (focus first | exact Nat.le_of_ble_eq_true rfl | omega | (simp; omega)); (focus first | exact .inl (Nat.zero_le _) | omega); (focus first | (intro v hv; simp at hv; subst hv; rfl) | (simp [Value.oneCell']; done) | (simp [Value.oneCell', strV]; done) | (simp [Value.cells, Value.oneCell', strV]; done)))
    | (refine W_storeF (A := [_, _, _]) hp rfl sz24 rfl rfl rfl rfl ?_ ?_ ?_ rfl ?_; (focus first | exact Nat.le_of_ble_eq_true rfl | omega | (simp; omega)); (focus first | exact .inl (Nat.zero_le _) | omega); (focus first | (intro v hv; simp at hv; subst hv; rfl) | (simp [Value.oneCell']; done) | (simp [Value.oneCell', strV]; done) | (simp [Value.cells, Value.oneCell', strV]; done)))
    | (refine W_storeF (A := [_, _, _, _]) hp rfl sz24 rfl rfl rfl rfl ?_ ?_ ?_ rfl ?_; (focus first | exact Nat.le_of_ble_eq_true rfl | omega | (simp; omega)); (focus first | exact .inl (Nat.zero_le _) | omega); (focus first | (intro v hv; simp at hv; subst hv; rfl) | (simp [Value.oneCell']; done) | (simp [Value.oneCell', strV]; done) | (simp [Value.cells, Value.oneCell', strV]; done)))
    | (refine W_storeF (A := [_, _, _, _, _]) hp rfl sz24 rfl rfl rfl rfl ?_ ?_ ?_ rfl ?_; (focus first | exact Nat.le_of_ble_eq_true rfl | omega | (simp; omega)); (focus first | exact .inl (Nat.zero_le _) | omega); (focus first | (intro v hv; simp at hv; subst hv; rfl) | (simp [Value.oneCell']; done) | (simp [Value.oneCell', strV]; done) | (simp [Value.cells, Value.oneCell', strV]; done)))
    | (refine W_storeM (A := []) hp rfl sz24 rfl rfl rfl rfl ?_ ?_ ?_ rfl ?_; (focus first | exact Nat.le_of_ble_eq_true rfl | omega | (simp; omega)); (focus first | exact .inl (Nat.zero_le _) | omega); (focus first | (intro v hv; simp at hv; subst hv; rfl) | (simp [Value.oneCell']; done) | (simp [Value.oneCell', strV]; done) | (simp [Value.cells, Value.oneCell', strV]; done)))
    | (refine W_storeM (A := [_]) hp rfl sz24 rfl rfl rfl rfl ?_ ?_ ?_ rfl ?_; (focus first | exact Nat.le_of_ble_eq_true rfl | omega | (simp; omega)); (focus first | exact .inl (Nat.zero_le _) | omega); (focus first | (intro v hv; simp at hv; subst hv; rfl) | (simp [Value.oneCell']; done) | (simp [Value.oneCell', strV]; done) | (simp [Value.cells, Value.oneCell', strV]; done)))
    | (refine W_storeM (A := [_, _]) hp rfl sz24 rfl rfl rfl rfl ?_ ?_ ?_ rfl ?_; (focus first | exact Nat.le_of_ble_eq_true rfl | omega | (simp; omega)); (focus first | exact .inl (Nat.zero_le _) | omega); (focus first | (intro v hv; simp at hv; subst hv; rfl) | (simp [Value.oneCell']; done) | (simp [Value.oneCell', strV]; done) | (simp [Value.cells, Value.oneCell', strV]; done)))
    | (refine W_storeP hp sz24 rfl rfl rfl rfl (by repeat (first | exact Pick.here | apply Pick.cons | apply Pick.app)) ?_ ?_ ?_ rfl ?_; (focus first | exact Nat.le_of_ble_eq_true rfl | omega | (simp; omega)); (focus first | exact .inl (Nat.zero_le _) | omega); (focus first | (intro v hv; simp at hv; subst hv; rfl) | (simp [Value.oneCell']; done) | (simp [Value.oneCell', strV]; done) | (simp [Value.cells, Value.oneCell', strV]; done)))
  clear hp; intro w hp
  simp only [List.nil_append, List.cons_append, List.append_nil, List.take_succ_cons, List.take_zero, List.drop_succ_cons, List.drop_zero, List.take_nil, List.drop_nil, Nat.zero_add, Nat.add_zero, Nat.reduceAdd, Int.reduceToNat, Int.toNat_natCast, Nat.reduceMul, Nat.mul_one, Nat.zero_mul] at hp
  refine W_assign rfl rfl ?_
  refine W_nil ?_
  refine N_then_k ?_
  refine K_seq ?_
  refine K_region ?_
  refine W_acall hp rfl (((parse_spec w (hR.keep hp) [71, 69, 84, 32, 47, 97, 32, 72, 84, 84, 80, 47, 50, 46, 48] (by decide)).eq (reqV_bad (by decide) ex2))) rfl ?_
  clear hp; intro w hp
  refine W_move rfl rfl ?_
  refine W_extract rfl rfl rfl ?_
  refine W_extract rfl rfl rfl ?_
  refine W_alloc hp zv24 rfl rfl ?_
  clear hp; intro b3 w hp
  first
    | (refine W_storeF (A := []) hp rfl sz24 rfl rfl rfl rfl ?_ ?_ ?_ rfl ?_; (focus first | exact Nat.le_of_ble_eq_true rfl | omega | (simp; omega)); (focus first | exact .inl (Nat.zero_le _) | omega); (focus first | (intro v hv; simp at hv; subst hv; rfl) | (simp [Value.oneCell']; done) | (simp [Value.oneCell', strV]; done) | (simp [Value.cells, Value.oneCell', strV]; done)))
    | (refine W_storeF (A := [_]) hp rfl sz24 rfl rfl rfl rfl ?_ ?_ ?_ rfl ?_; (focus first | exact Nat.le_of_ble_eq_true rfl | omega | (simp; omega)); (focus first | exact .inl (Nat.zero_le _) | omega); (focus first | (intro v hv; simp at hv; subst hv; rfl) | (simp [Value.oneCell']; done) | (simp [Value.oneCell', strV]; done) | (simp [Value.cells, Value.oneCell', strV]; done)))
    | (refine W_storeF (A := [_, _]) hp rfl sz24 rfl rfl rfl rfl ?_ ?_ ?_ rfl ?_; (focus first | exact Nat.le_of_ble_eq_true rfl | omega | (simp; omega)); (focus first | exact .inl (Nat.zero_le _) | omega); (focus first | (intro v hv; simp at hv; subst hv; rfl) | (simp [Value.oneCell']; done) | (simp [Value.oneCell', strV]; done) | (simp [Value.cells, Value.oneCell', strV]; done)))
    | (refine W_storeF (A := [_, _, _]) hp rfl sz24 rfl rfl rfl rfl ?_ ?_ ?_ rfl ?_; (focus first | exact Nat.le_of_ble_eq_true rfl | omega | (simp; omega)); (focus first | exact .inl (Nat.zero_le _) | omega); (focus first | (intro v hv; simp at hv; subst hv; rfl) | (simp [Value.oneCell']; done) | (simp [Value.oneCell', strV]; done) | (simp [Value.cells, Value.oneCell', strV]; done)))
    | (refine W_storeF (A := [_, _, _, _]) hp rfl sz24 rfl rfl rfl rfl ?_ ?_ ?_ rfl ?_; (focus first | exact Nat.le_of_ble_eq_true rfl | omega | (simp; omega)); (focus first | exact .inl (Nat.zero_le _) | omega); (focus first | (intro v hv; simp at hv; subst hv; rfl) | (simp [Value.oneCell']; done) | (simp [Value.oneCell', strV]; done) | (simp [Value.cells, Value.oneCell', strV]; done)))
    | (refine W_storeF (A := [_, _, _, _, _]) hp rfl sz24 rfl rfl rfl rfl ?_ ?_ ?_ rfl ?_; (focus first | exact Nat.le_of_ble_eq_true rfl | omega | (simp; omega)); (focus first | exact .inl (Nat.zero_le _) | omega); (focus first | (intro v hv; simp at hv; subst hv; rfl) | (simp [Value.oneCell']; done) | (simp [Value.oneCell', strV]; done) | (simp [Value.cells, Value.oneCell', strV]; done)))
    | (refine W_storeM (A := []) hp rfl sz24 rfl rfl rfl rfl ?_ ?_ ?_ rfl ?_; (focus first | exact Nat.le_of_ble_eq_true rfl | omega | (simp; omega)); (focus first | exact .inl (Nat.zero_le _) | omega); (focus first | (intro v hv; simp at hv; subst hv; rfl) | (simp [Value.oneCell']; done) | (simp [Value.oneCell', strV]; done) | (simp [Value.cells, Value.oneCell', strV]; done)))
    | (refine W_storeM (A := [_]) hp rfl sz24 rfl rfl rfl rfl ?_ ?_ ?_ rfl ?_; (focus first | exact Nat.le_of_ble_eq_true rfl | omega | (simp; omega)); (focus first | exact .inl (Nat.zero_le _) | omega); (focus first | (intro v hv; simp at hv; subst hv; rfl) | (simp [Value.oneCell']; done) | (simp [Value.oneCell', strV]; done) | (simp [Value.cells, Value.oneCell', strV]; done)))
    | (refine W_storeM (A := [_, _]) hp rfl sz24 rfl rfl rfl rfl ?_ ?_ ?_ rfl ?_; (focus first | exact Nat.le_of_ble_eq_true rfl | omega | (simp; omega)); (focus first | exact .inl (Nat.zero_le _) | omega); (focus first | (intro v hv; simp at hv; subst hv; rfl) | (simp [Value.oneCell']; done) | (simp [Value.oneCell', strV]; done) | (simp [Value.cells, Value.oneCell', strV]; done)))
    | (refine W_storeP hp sz24 rfl rfl rfl rfl (by repeat (first | exact Pick.here | apply Pick.cons | apply Pick.app)) ?_ ?_ ?_ rfl ?_; (focus first | exact Nat.le_of_ble_eq_true rfl | omega | (simp; omega)); (focus first | exact .inl (Nat.zero_le _) | omega); (focus first | (intro v hv; simp at hv; subst hv; rfl) | (simp [Value.oneCell']; done) | (simp [Value.oneCell', strV]; done) | (simp [Value.cells, Value.oneCell', strV]; done)))
  clear hp; intro w hp
  simp only [List.nil_append, List.cons_append, List.append_nil, List.take_succ_cons, List.take_zero, List.drop_succ_cons, List.drop_zero, List.take_nil, List.drop_nil, Nat.zero_add, Nat.add_zero, Nat.reduceAdd, Int.reduceToNat, Int.toNat_natCast, Nat.reduceMul, Nat.mul_one, Nat.zero_mul] at hp
  refine W_assign rfl rfl ?_
  refine W_nil ?_
  refine N_then_k ?_
  refine K_seq ?_
  refine K_region ?_
  refine W_acall hp rfl (((parse_spec w (hR.keep hp) [71, 69, 84, 32, 32, 47, 97, 32, 72, 84, 84, 80, 47, 49, 46, 49] (by decide)).eq (reqV_bad (by decide) ex3))) rfl ?_
  clear hp; intro w hp
  refine W_move rfl rfl ?_
  refine W_extract rfl rfl rfl ?_
  refine W_extract rfl rfl rfl ?_
  refine W_alloc hp zv24 rfl rfl ?_
  clear hp; intro b5 w hp
  first
    | (refine W_storeF (A := []) hp rfl sz24 rfl rfl rfl rfl ?_ ?_ ?_ rfl ?_; (focus first | exact Nat.le_of_ble_eq_true rfl | omega | (simp; omega)); (focus first | exact .inl (Nat.zero_le _) | omega); (focus first | (intro v hv; simp at hv; subst hv; rfl) | (simp [Value.oneCell']; done) | (simp [Value.oneCell', strV]; done) | (simp [Value.cells, Value.oneCell', strV]; done)))
    | (refine W_storeF (A := [_]) hp rfl sz24 rfl rfl rfl rfl ?_ ?_ ?_ rfl ?_; (focus first | exact Nat.le_of_ble_eq_true rfl | omega | (simp; omega)); (focus first | exact .inl (Nat.zero_le _) | omega); (focus first | (intro v hv; simp at hv; subst hv; rfl) | (simp [Value.oneCell']; done) | (simp [Value.oneCell', strV]; done) | (simp [Value.cells, Value.oneCell', strV]; done)))
    | (refine W_storeF (A := [_, _]) hp rfl sz24 rfl rfl rfl rfl ?_ ?_ ?_ rfl ?_; (focus first | exact Nat.le_of_ble_eq_true rfl | omega | (simp; omega)); (focus first | exact .inl (Nat.zero_le _) | omega); (focus first | (intro v hv; simp at hv; subst hv; rfl) | (simp [Value.oneCell']; done) | (simp [Value.oneCell', strV]; done) | (simp [Value.cells, Value.oneCell', strV]; done)))
    | (refine W_storeF (A := [_, _, _]) hp rfl sz24 rfl rfl rfl rfl ?_ ?_ ?_ rfl ?_; (focus first | exact Nat.le_of_ble_eq_true rfl | omega | (simp; omega)); (focus first | exact .inl (Nat.zero_le _) | omega); (focus first | (intro v hv; simp at hv; subst hv; rfl) | (simp [Value.oneCell']; done) | (simp [Value.oneCell', strV]; done) | (simp [Value.cells, Value.oneCell', strV]; done)))
    | (refine W_storeF (A := [_, _, _, _]) hp rfl sz24 rfl rfl rfl rfl ?_ ?_ ?_ rfl ?_; (focus first | exact Nat.le_of_ble_eq_true rfl | omega | (simp; omega)); (focus first | exact .inl (Nat.zero_le _) | omega); (focus first | (intro v hv; simp at hv; subst hv; rfl) | (simp [Value.oneCell']; done) | (simp [Value.oneCell', strV]; done) | (simp [Value.cells, Value.oneCell', strV]; done)))
    | (refine W_storeF (A := [_, _, _, _, _]) hp rfl sz24 rfl rfl rfl rfl ?_ ?_ ?_ rfl ?_; (focus first | exact Nat.le_of_ble_eq_true rfl | omega | (simp; omega)); (focus first | exact .inl (Nat.zero_le _) | omega); (focus first | (intro v hv; simp at hv; subst hv; rfl) | (simp [Value.oneCell']; done) | (simp [Value.oneCell', strV]; done) | (simp [Value.cells, Value.oneCell', strV]; done)))
    | (refine W_storeM (A := []) hp rfl sz24 rfl rfl rfl rfl ?_ ?_ ?_ rfl ?_; (focus first | exact Nat.le_of_ble_eq_true rfl | omega | (simp; omega)); (focus first | exact .inl (Nat.zero_le _) | omega); (focus first | (intro v hv; simp at hv; subst hv; rfl) | (simp [Value.oneCell']; done) | (simp [Value.oneCell', strV]; done) | (simp [Value.cells, Value.oneCell', strV]; done)))
    | (refine W_storeM (A := [_]) hp rfl sz24 rfl rfl rfl rfl ?_ ?_ ?_ rfl ?_; (focus first | exact Nat.le_of_ble_eq_true rfl | omega | (simp; omega)); (focus first | exact .inl (Nat.zero_le _) | omega); (focus first | (intro v hv; simp at hv; subst hv; rfl) | (simp [Value.oneCell']; done) | (simp [Value.oneCell', strV]; done) | (simp [Value.cells, Value.oneCell', strV]; done)))
    | (refine W_storeM (A := [_, _]) hp rfl sz24 rfl rfl rfl rfl ?_ ?_ ?_ rfl ?_; (focus first | exact Nat.le_of_ble_eq_true rfl | omega | (simp; omega)); (focus first | exact .inl (Nat.zero_le _) | omega); (focus first | (intro v hv; simp at hv; subst hv; rfl) | (simp [Value.oneCell']; done) | (simp [Value.oneCell', strV]; done) | (simp [Value.cells, Value.oneCell', strV]; done)))
    | (refine W_storeP hp sz24 rfl rfl rfl rfl (by repeat (first | exact Pick.here | apply Pick.cons | apply Pick.app)) ?_ ?_ ?_ rfl ?_; (focus first | exact Nat.le_of_ble_eq_true rfl | omega | (simp; omega)); (focus first | exact .inl (Nat.zero_le _) | omega); (focus first | (intro v hv; simp at hv; subst hv; rfl) | (simp [Value.oneCell']; done) | (simp [Value.oneCell', strV]; done) | (simp [Value.cells, Value.oneCell', strV]; done)))
  clear hp; intro w hp
  simp only [List.nil_append, List.cons_append, List.append_nil, List.take_succ_cons, List.take_zero, List.drop_succ_cons, List.drop_zero, List.take_nil, List.drop_nil, Nat.zero_add, Nat.add_zero, Nat.reduceAdd, Int.reduceToNat, Int.toNat_natCast, Nat.reduceMul, Nat.mul_one, Nat.zero_mul] at hp
  refine W_assign rfl rfl ?_
  refine W_nil ?_
  refine N_then_k ?_
  refine K_seq ?_
  refine K_region ?_
  refine W_load_own Tryd.underlying24 rfl sz24 rfl hp (by first | exact List.mem_cons_self | exact .tail _ (.head _) | exact .tail _ (.tail _ (.head _)) | exact .tail _ (.tail _ (.tail _ (.head _))) | exact .tail _ (.tail _ (.tail _ (.tail _ (.head _)))) | exact .tail _ (.tail _ (.tail _ (.tail _ (.tail _ (.head _))))) | exact List.mem_append_right _ (.head _) | exact List.mem_append_right _ (.tail _ (.head _)) | exact List.mem_append_right _ (.tail _ (.tail _ (.head _))) | exact .tail _ (List.mem_append_right _ (.head _)) | exact .tail _ (List.mem_append_right _ (.tail _ (.head _))) | assumption | (repeat (first | exact List.mem_cons_self | apply List.mem_append_right | apply List.mem_cons_of_mem))) rfl rfl rfl ?_
  refine W_build3 rfl rfl rfl  (fun v0 v1 v2 => [v0, v1, v2]) (by kernel_rfl) rfl ?_
  refine W_aeql_t (by kernel_rfl) rfl rfl ?_ ?_ rfl ?_
  (focus (first | rfl | assumption))
  (focus (first | rfl | kernel_rfl))
  refine W_move rfl rfl ?_
  first
    | refine W_guard_lit_t rfl ?_
    | refine W_guard_lit_f rfl ?_
    | refine W_guard_lit_u rfl ?_
    | refine W_guard_split_d rfl rfl rfl (fun hg1 => ?_) (fun hg1 => ?_)
    | refine W_guard_split_n rfl rfl rfl (fun hg1 => ?_) (fun hg1 => ?_)
    | refine W_guard_split_nb rfl rfl rfl (fun hg1 => ?_) (fun hg1 => ?_)
    | refine W_guard_split rfl rfl rfl (fun hg1 => ?_) (fun hg1 => ?_)
  all_goals try (exfalso; first | omega | (simp only [Bool.false_eq_true, reduceCtorEq] at hg1; done) | (refine absurd hg1 ?_; with_reducible assumption) | (refine absurd ?_ hg1; with_reducible assumption))
  all_goals (
   first
     | (iterate 2 refine W_guard_no rfl rfl rfl ?_)
     | (iterate 2 refine W_guard_un rfl rfl ?_)
     | (refine W_guard_yes rfl ?_
        refine W_move rfl rfl ?_
        refine W_guard_yes rfl ?_
        first
          | (refine W_val rfl (inb_of rfl) (R_bin (a := .nilIface) (v := .bool true) rfl rfl (by kernel_rfl)) ?_)
          | (refine W_val rfl (inb_of rfl) (R_bin (v := .bool false) rfl rfl (by kernel_rfl)) ?_))
   first
     | (refine W_pick_t rfl rfl rfl ?_)
     | (refine W_pick_f rfl rfl rfl ?_)
     | (refine W_pick_b rfl rfl rfl rfl ?_)
   refine W_move rfl rfl ?_
   first
     | refine W_guard_lit_t rfl ?_
     | refine W_guard_lit_f rfl ?_
     | refine W_guard_lit_u rfl ?_
     | refine W_guard_split_d rfl rfl rfl (fun hg2 => ?_) (fun hg2 => ?_)
     | refine W_guard_split_n rfl rfl rfl (fun hg2 => ?_) (fun hg2 => ?_)
     | refine W_guard_split_nb rfl rfl rfl (fun hg2 => ?_) (fun hg2 => ?_)
     | refine W_guard_split rfl rfl rfl (fun hg2 => ?_) (fun hg2 => ?_)
   all_goals try (exfalso; first | omega | (simp only [Bool.false_eq_true, reduceCtorEq] at hg2; done) | (refine absurd hg2 ?_; with_reducible assumption) | (refine absurd ?_ hg2; with_reducible assumption))
   all_goals (
    first
      | (iterate 2 refine W_guard_no rfl rfl rfl ?_)
      | (iterate 2 refine W_guard_un rfl rfl ?_)
      | (refine W_guard_yes rfl ?_
         refine W_move rfl rfl ?_
         refine W_guard_yes rfl ?_
         refine W_acall hp rfl ((wrong_spec w (hg.keep hp) _ _)) rfl ?_
         clear hp; intro w hp)
    first
      | (refine W_pick_t rfl rfl rfl ?_)
      | (refine W_pick_f rfl rfl rfl ?_)
      | (refine W_pick_b rfl rfl rfl rfl ?_)
    refine W_move rfl rfl ?_
    first
      | refine W_guard_lit_t rfl ?_
      | refine W_guard_lit_f rfl ?_
      | refine W_guard_lit_u rfl ?_
      | refine W_guard_split_d rfl rfl rfl (fun hg3 => ?_) (fun hg3 => ?_)
      | refine W_guard_split_n rfl rfl rfl (fun hg3 => ?_) (fun hg3 => ?_)
      | refine W_guard_split_nb rfl rfl rfl (fun hg3 => ?_) (fun hg3 => ?_)
      | refine W_guard_split rfl rfl rfl (fun hg3 => ?_) (fun hg3 => ?_)
    all_goals try (exfalso; first | omega | (simp only [Bool.false_eq_true, reduceCtorEq] at hg3; done) | (refine absurd hg3 ?_; with_reducible assumption) | (refine absurd ?_ hg3; with_reducible assumption))
    all_goals (
     first
       | (iterate 2 refine W_guard_no rfl rfl rfl ?_)
       | (iterate 2 refine W_guard_un rfl rfl ?_)
       | (refine W_guard_yes rfl ?_
          refine W_move rfl rfl ?_
          refine W_guard_yes rfl ?_
          refine W_acall hp rfl ((wrong_spec w (hg.keep hp) _ _)) rfl ?_
          clear hp; intro w hp)
     first
       | (refine W_pick_t rfl rfl rfl ?_)
       | (refine W_pick_f rfl rfl rfl ?_)
       | (refine W_pick_b rfl rfl rfl rfl ?_)
     refine W_move rfl rfl ?_
     first
       | refine W_guard_lit_t rfl ?_
       | refine W_guard_lit_f rfl ?_
       | refine W_guard_lit_u rfl ?_
       | refine W_guard_split_d rfl rfl rfl (fun hg4 => ?_) (fun hg4 => ?_)
       | refine W_guard_split_n rfl rfl rfl (fun hg4 => ?_) (fun hg4 => ?_)
       | refine W_guard_split_nb rfl rfl rfl (fun hg4 => ?_) (fun hg4 => ?_)
       | refine W_guard_split rfl rfl rfl (fun hg4 => ?_) (fun hg4 => ?_)
     all_goals try (exfalso; first | omega | (simp only [Bool.false_eq_true, reduceCtorEq] at hg4; done) | (refine absurd hg4 ?_; with_reducible assumption) | (refine absurd ?_ hg4; with_reducible assumption))
     all_goals (
      first
        | (iterate 3 refine W_guard_no rfl rfl rfl ?_)
        | (iterate 3 refine W_guard_un rfl rfl ?_)
        | (refine W_guard_yes rfl ?_
           refine W_load_own Tryd.underlying24 rfl sz24 rfl hp (by first | exact List.mem_cons_self | exact .tail _ (.head _) | exact .tail _ (.tail _ (.head _)) | exact .tail _ (.tail _ (.tail _ (.head _))) | exact .tail _ (.tail _ (.tail _ (.tail _ (.head _)))) | exact .tail _ (.tail _ (.tail _ (.tail _ (.tail _ (.head _))))) | exact List.mem_append_right _ (.head _) | exact List.mem_append_right _ (.tail _ (.head _)) | exact List.mem_append_right _ (.tail _ (.tail _ (.head _))) | exact .tail _ (List.mem_append_right _ (.head _)) | exact .tail _ (List.mem_append_right _ (.tail _ (.head _))) | assumption | (repeat (first | exact List.mem_cons_self | apply List.mem_append_right | apply List.mem_cons_of_mem))) rfl rfl rfl ?_
           refine W_guard_yes rfl ?_
           refine W_acall hp rfl (((rtext_spec w [71, 69, 84] [47, 97] 1 (by decide) (by decide)).eq (congrArg strV ex4))) rfl ?_
           clear hp; intro w hp
           refine W_guard_yes rfl ?_
           first
             | (refine W_seql_t rfl rfl ?_ rfl ?_; (focus (first | rfl | assumption)))
             | (refine W_seql_f rfl rfl ?_ rfl ?_; (focus (first | assumption | decide | exact List.cons_ne_nil _ _)))
             | (refine W_seql rfl rfl rfl ?_))
      first
        | (refine W_pick_t rfl rfl rfl ?_)
        | (refine W_pick_f rfl rfl rfl ?_)
        | (refine W_pick_b rfl rfl rfl rfl ?_)
      refine W_move rfl rfl ?_
      first
        | refine W_guard_lit_t rfl ?_
        | refine W_guard_lit_f rfl ?_
        | refine W_guard_lit_u rfl ?_
        | refine W_guard_split_d rfl rfl rfl (fun hg5 => ?_) (fun hg5 => ?_)
        | refine W_guard_split_n rfl rfl rfl (fun hg5 => ?_) (fun hg5 => ?_)
        | refine W_guard_split_nb rfl rfl rfl (fun hg5 => ?_) (fun hg5 => ?_)
        | refine W_guard_split rfl rfl rfl (fun hg5 => ?_) (fun hg5 => ?_)
      all_goals try (exfalso; first | omega | (simp only [Bool.false_eq_true, reduceCtorEq] at hg5; done) | (refine absurd hg5 ?_; with_reducible assumption) | (refine absurd ?_ hg5; with_reducible assumption))
      all_goals (
       first
         | (iterate 2 refine W_guard_no rfl rfl rfl ?_)
         | (iterate 2 refine W_guard_un rfl rfl ?_)
         | (refine W_guard_yes rfl ?_
            refine W_acall hp rfl (((kind_spec w (hO.keep hp) [72, 69, 65, 68]).eq (congrArg (Value.int .i64) (show kindF [72, 69, 65, 68] = 2 by decide +kernel)))) rfl ?_
            clear hp; intro w hp
            refine W_guard_yes rfl ?_
            first
              | (refine W_eql_t rfl rfl ?_ rfl ?_; (focus (omega)))
              | (refine W_eql_f rfl rfl ?_ rfl ?_; (focus (omega)))
              | (refine W_eql rfl rfl rfl ?_))
       first
         | (refine W_pick_t rfl rfl rfl ?_)
         | (refine W_pick_f rfl rfl rfl ?_)
         | (refine W_pick_b rfl rfl rfl rfl ?_)
       refine W_move rfl rfl ?_
       first
         | refine W_guard_lit_t rfl ?_
         | refine W_guard_lit_f rfl ?_
         | refine W_guard_lit_u rfl ?_
         | refine W_guard_split_d rfl rfl rfl (fun hg6 => ?_) (fun hg6 => ?_)
         | refine W_guard_split_n rfl rfl rfl (fun hg6 => ?_) (fun hg6 => ?_)
         | refine W_guard_split_nb rfl rfl rfl (fun hg6 => ?_) (fun hg6 => ?_)
         | refine W_guard_split rfl rfl rfl (fun hg6 => ?_) (fun hg6 => ?_)
       all_goals try (exfalso; first | omega | (simp only [Bool.false_eq_true, reduceCtorEq] at hg6; done) | (refine absurd hg6 ?_; with_reducible assumption) | (refine absurd ?_ hg6; with_reducible assumption))
       all_goals (
        first
          | (iterate 2 refine W_guard_no rfl rfl rfl ?_)
          | (iterate 2 refine W_guard_un rfl rfl ?_)
          | (refine W_guard_yes rfl ?_
             refine W_acall hp rfl (((kind_spec w (hO.keep hp) [104, 101, 97, 100]).eq (congrArg (Value.int .i64) (show kindF [104, 101, 97, 100] = 0 by decide +kernel)))) rfl ?_
             clear hp; intro w hp
             refine W_guard_yes rfl ?_
             first
               | (refine W_eql_t rfl rfl ?_ rfl ?_; (focus (omega)))
               | (refine W_eql_f rfl rfl ?_ rfl ?_; (focus (omega)))
               | (refine W_eql rfl rfl rfl ?_))
        first
          | (refine W_pick_t rfl rfl rfl ?_)
          | (refine W_pick_f rfl rfl rfl ?_)
          | (refine W_pick_b rfl rfl rfl rfl ?_)
        refine W_move rfl rfl ?_
        first
          | refine W_guard_lit_t rfl ?_
          | refine W_guard_lit_f rfl ?_
          | refine W_guard_lit_u rfl ?_
          | refine W_guard_split_d rfl rfl rfl (fun hg7 => ?_) (fun hg7 => ?_)
          | refine W_guard_split_n rfl rfl rfl (fun hg7 => ?_) (fun hg7 => ?_)
          | refine W_guard_split_nb rfl rfl rfl (fun hg7 => ?_) (fun hg7 => ?_)
          | refine W_guard_split rfl rfl rfl (fun hg7 => ?_) (fun hg7 => ?_)
        all_goals try (exfalso; first | omega | (simp only [Bool.false_eq_true, reduceCtorEq] at hg7; done) | (refine absurd hg7 ?_; with_reducible assumption) | (refine absurd ?_ hg7; with_reducible assumption))
        all_goals (
         first
           | (iterate 3 refine W_guard_no rfl rfl rfl ?_)
           | (iterate 3 refine W_guard_un rfl rfl ?_)
           | (refine W_guard_yes rfl ?_
              refine W_bcall hp rfl ((methods_spec w (hO.keep hp) 4)) rfl ?_
              clear hp; intro v48 G48 w r48 hp
              obtain ⟨A48, c48, rfl⟩ := r48.form
              refine W_guard_yes rfl ?_
              refine W_len_sl Tryd.underlying38 rfl rfl ?_
              refine W_guard_yes rfl ?_
              first
                | (refine W_eql_t rfl rfl ?_ rfl ?_; (focus (omega)))
                | (refine W_eql_f rfl rfl ?_ rfl ?_; (focus (omega)))
                | (refine W_eql rfl rfl rfl ?_))
         first
           | (refine W_pick_t rfl rfl rfl ?_)
           | (refine W_pick_f rfl rfl rfl ?_)
           | (refine W_pick_b rfl rfl rfl rfl ?_)
         refine W_assign rfl rfl ?_
         refine W_nil ?_
         refine N_then_k ?_
         refine K_ret ?_
         refine N_done1 (.inr rfl) rfl rfl ?_
         exact ⟨_, rfl, rfl, hp.nil⟩)))))))

end Go.Proofs.YtcanebnegfnhdaaDoor
