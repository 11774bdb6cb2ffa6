/-
  strings.Builder at this program.
-/
import Derived.Test.YtjmfjdmpbkdceaaDoorSxT
import Derived.Test.YtjmfjdmpbkdceaaDoorSxRow
namespace Go.Proofs.YtjmfjdmpbkdceaaDoor
open Go.Sx Go.RowKit
set_option linter.unusedVariables false
set_option linter.unusedSimpArgs false
set_option maxRecDepth 100000

/-! ### strings.Builder -/
theorem xNoEscape : ExtFn Tryd.prog 51 Go.Extern.AbiNoEscape.same := ⟨Tryd.f51, Tryd.func51, by kernel_rfl, by kernel_rfl, by kernel_rfl, by kernel_rfl⟩
theorem bEqNone (b : Nat) (w : World) : (do eqGuard .eql 50 (.tmp 5) (.const (.pointer none)) (.pointer (some ⟨b, 0, none⟩)) (.pointer none); binOp .eql 50 (.pointer (some ⟨b, 0, none⟩)) (.pointer none) : Sem Value).run Tryd.prog w = .ok (.bool false) w := by kernel_rfl
theorem bInfo : ∃ j, (Tryd.prog).info? 52 = some j ∧ j.size ≠ 0 := by
  obtain ⟨i, h, hs, _⟩ := info_of sz52 pb52 zv52
  exact ⟨i, h, by rw [hs]; decide⟩
theorem bTo (b : Nat) (w : World) (h : w.shape? b = some (52, 2)) : (convert 50 65 (.pointer (some ⟨b, 0, none⟩))).run Tryd.prog w = .ok (.pointer (some ⟨b, 0, none⟩)) w := by
  obtain ⟨j, hj, hs⟩ := bInfo
  exact Lib.run_to_unsafe w ⟨b, 0, none⟩ Tryd.underlying50 Tryd.underlying65 hj hs h (show (0 : Nat) < 2 by decide)
theorem bFrom (b : Nat) (w : World) (h : w.shape? b = some (52, 2)) : (convert 65 50 (.pointer (some ⟨b, 0, none⟩))).run Tryd.prog w = .ok (.pointer (some ⟨b, 0, none⟩)) w := by
  obtain ⟨j, hj, hs⟩ := bInfo
  exact Lib.run_from_unsafe w ⟨b, 0, none⟩ Tryd.underlying65 Tryd.underlying50 hj h (by kernel_rfl)
theorem bSame (b : Nat) (w : World) (x y : Operand) : (do eqGuard .neq 50 x y (.pointer (some ⟨b, 0, none⟩)) (.pointer (some ⟨b, 0, none⟩)); binOp .neq 50 (.pointer (some ⟨b, 0, none⟩)) (.pointer (some ⟨b, 0, none⟩)) : Sem Value).run Tryd.prog w = .ok (.bool false) w := by
  obtain ⟨j, hj, hs⟩ := bInfo
  have := Lib.run_neq_ptr_same (P := Tryd.prog) w ⟨b, 0, none⟩ Tryd.underlying50 hj
  simp [eqGuard, this]

theorem copyCheck_new (w0 : World) (b : Nat) (v : Value) (G : Heap) (w : World) (hp : Hp w0 [] ((b, .cells [.pointer none, v].toArray 52) :: G) w) :
    Calls Tryd.prog 43 [.pointer (some ⟨b, 0, none⟩)].toArray w fun e w' => ∃ u, e = .returned u ∧ u = .tuple #[] ∧ Hp w0 [] ((b, .cells [.pointer (some ⟨b, 0, none⟩), v].toArray 52) :: G) w' := by
  refine calls_of_K Tryd.func43 rfl rfl ?_
  refine K_seq ?_
  refine K_region ?_
  refine W_move rfl rfl ?_
  refine W_nilCheck_p rfl rfl ?_
  refine W_fieldAddr Tryd.underlying52 rfl sz50 rfl rfl ?_
  refine W_load_s Tryd.underlying50 rfl rfl (by first | exact hp.cellF (by first | exact List.mem_cons_self | exact .tail _ (.head _) | exact .tail _ (.tail _ (.head _)) | exact .tail _ (.tail _ (.tail _ (.head _))) | exact .tail _ (.tail _ (.tail _ (.tail _ (.head _)))) | exact .tail _ (.tail _ (.tail _ (.tail _ (.tail _ (.head _))))) | exact List.mem_append_right _ (.head _) | exact List.mem_append_right _ (.tail _ (.head _)) | exact List.mem_append_right _ (.tail _ (.tail _ (.head _))) | exact .tail _ (List.mem_append_right _ (.head _)) | exact .tail _ (List.mem_append_right _ (.tail _ (.head _))) | assumption | (repeat (first | exact List.mem_cons_self | apply List.mem_append_right | apply List.mem_cons_of_mem))) rfl | exact hp.cellM (by first | exact List.mem_cons_self | exact .tail _ (.head _) | exact .tail _ (.tail _ (.head _)) | exact .tail _ (.tail _ (.tail _ (.head _))) | exact .tail _ (.tail _ (.tail _ (.tail _ (.head _)))) | exact .tail _ (.tail _ (.tail _ (.tail _ (.tail _ (.head _))))) | exact List.mem_append_right _ (.head _) | exact List.mem_append_right _ (.tail _ (.head _)) | exact List.mem_append_right _ (.tail _ (.tail _ (.head _))) | exact .tail _ (List.mem_append_right _ (.head _)) | exact .tail _ (List.mem_append_right _ (.tail _ (.head _))) | assumption | (repeat (first | exact List.mem_cons_self | apply List.mem_append_right | apply List.mem_cons_of_mem))) rfl | exact hp.cell_old0 ‹_› | (refine hp.cell_old0 ?_; assumption) | (apply hp.cellF (by assumption); rfl)) rfl ?_
  refine W_val rfl (inb_of rfl) (R_bin (v := .bool true) rfl rfl ?_) ?_
  · kernel_rfl
  refine W_nil ?_
  refine N_then_k ?_
  first
    | refine K_cond_d rfl (fun hc1 => ?_) (fun hc1 => ?_)
    | refine K_cond_n rfl (fun hc1 => ?_) (fun hc1 => ?_)
    | refine K_cond_nb rfl (fun hc1 => ?_) (fun hc1 => ?_)
    | refine K_cond_t rfl (fun hc1 => ?_) (fun hc1 => ?_)
  · try (exfalso; first | omega | (simp only [Bool.false_eq_true, reduceCtorEq] at hc1; done) | (refine absurd hc1 ?_; with_reducible assumption) | (refine absurd ?_ hc1; with_reducible assumption))
    all_goals (
     refine K_region ?_
     refine W_move rfl rfl ?_
     refine W_move rfl rfl ?_
     refine W_val rfl (inb_of rfl) (R_convr (v := .pointer (some ⟨b, 0, none⟩)) rfl (bTo b w (hp.shapeF List.mem_cons_self))) ?_
     refine W_val rfl (inb_of rfl) (R_ext (v := .pointer (some ⟨b, 0, none⟩)) xNoEscape (xs := [_]) rfl (Lib.run_noEscape w _)) ?_
     refine W_val rfl (inb_of rfl) (R_convr (v := .pointer (some ⟨b, 0, none⟩)) rfl (bFrom b w (hp.shapeF List.mem_cons_self))) ?_
     refine W_nilCheck_p rfl rfl ?_
     refine W_fieldAddr Tryd.underlying52 rfl sz50 rfl rfl ?_
     first
       | (refine W_storeF (A := []) hp rfl sz50 rfl rfl rfl rfl ?_ ?_ ?_ rfl ?_; (focus first | exact Nat.le_of_ble_eq_true rfl | omega | (simp; omega)); (focus first | exact .inl (Nat.zero_le _) | omega); (focus first | (intro v hv; simp at hv; subst hv; rfl) | (simp [Value.oneCell']; done) | (simp [Value.oneCell', strV]; done) | (simp [Value.cells, Value.oneCell', strV]; done)))
       | (refine W_storeF (A := [_]) hp rfl sz50 rfl rfl rfl rfl ?_ ?_ ?_ rfl ?_; (focus first | exact Nat.le_of_ble_eq_true rfl | omega | (simp; omega)); (focus first | exact .inl (Nat.zero_le _) | omega); (focus first | (intro v hv; simp at hv; subst hv; rfl) | (simp [Value.oneCell']; done) | (simp [Value.oneCell', strV]; done) | (simp [Value.cells, Value.oneCell', strV]; done)))
       | (refine W_storeF (A := [_, _]) hp rfl sz50 rfl rfl rfl rfl ?_ ?_ ?_ rfl ?_; (focus first | exact Nat.le_of_ble_eq_true rfl | omega | (simp; omega)); (focus first | exact .inl (Nat.zero_le _) | omega); (focus first | (intro v hv; simp at hv; subst hv; rfl) | (simp [Value.oneCell']; done) | (simp [Value.oneCell', strV]; done) | (simp [Value.cells, Value.oneCell', strV]; done)))
       | (refine W_storeF (A := [_, _, _]) hp rfl sz50 rfl rfl rfl rfl ?_ ?_ ?_ rfl ?_; (focus first | exact Nat.le_of_ble_eq_true rfl | omega | (simp; omega)); (focus first | exact .inl (Nat.zero_le _) | omega); (focus first | (intro v hv; simp at hv; subst hv; rfl) | (simp [Value.oneCell']; done) | (simp [Value.oneCell', strV]; done) | (simp [Value.cells, Value.oneCell', strV]; done)))
       | (refine W_storeF (A := [_, _, _, _]) hp rfl sz50 rfl rfl rfl rfl ?_ ?_ ?_ rfl ?_; (focus first | exact Nat.le_of_ble_eq_true rfl | omega | (simp; omega)); (focus first | exact .inl (Nat.zero_le _) | omega); (focus first | (intro v hv; simp at hv; subst hv; rfl) | (simp [Value.oneCell']; done) | (simp [Value.oneCell', strV]; done) | (simp [Value.cells, Value.oneCell', strV]; done)))
       | (refine W_storeF (A := [_, _, _, _, _]) hp rfl sz50 rfl rfl rfl rfl ?_ ?_ ?_ rfl ?_; (focus first | exact Nat.le_of_ble_eq_true rfl | omega | (simp; omega)); (focus first | exact .inl (Nat.zero_le _) | omega); (focus first | (intro v hv; simp at hv; subst hv; rfl) | (simp [Value.oneCell']; done) | (simp [Value.oneCell', strV]; done) | (simp [Value.cells, Value.oneCell', strV]; done)))
       | (refine W_storeM (A := []) hp rfl sz50 rfl rfl rfl rfl ?_ ?_ ?_ rfl ?_; (focus first | exact Nat.le_of_ble_eq_true rfl | omega | (simp; omega)); (focus first | exact .inl (Nat.zero_le _) | omega); (focus first | (intro v hv; simp at hv; subst hv; rfl) | (simp [Value.oneCell']; done) | (simp [Value.oneCell', strV]; done) | (simp [Value.cells, Value.oneCell', strV]; done)))
       | (refine W_storeM (A := [_]) hp rfl sz50 rfl rfl rfl rfl ?_ ?_ ?_ rfl ?_; (focus first | exact Nat.le_of_ble_eq_true rfl | omega | (simp; omega)); (focus first | exact .inl (Nat.zero_le _) | omega); (focus first | (intro v hv; simp at hv; subst hv; rfl) | (simp [Value.oneCell']; done) | (simp [Value.oneCell', strV]; done) | (simp [Value.cells, Value.oneCell', strV]; done)))
       | (refine W_storeM (A := [_, _]) hp rfl sz50 rfl rfl rfl rfl ?_ ?_ ?_ rfl ?_; (focus first | exact Nat.le_of_ble_eq_true rfl | omega | (simp; omega)); (focus first | exact .inl (Nat.zero_le _) | omega); (focus first | (intro v hv; simp at hv; subst hv; rfl) | (simp [Value.oneCell']; done) | (simp [Value.oneCell', strV]; done) | (simp [Value.cells, Value.oneCell', strV]; done)))
       | (refine W_storeP hp sz50 rfl rfl rfl rfl (by repeat (first | exact Pick.here | apply Pick.cons | apply Pick.app)) ?_ ?_ ?_ rfl ?_; (focus first | exact Nat.le_of_ble_eq_true rfl | omega | (simp; omega)); (focus first | exact .inl (Nat.zero_le _) | omega); (focus first | (intro v hv; simp at hv; subst hv; rfl) | (simp [Value.oneCell']; done) | (simp [Value.oneCell', strV]; done) | (simp [Value.cells, Value.oneCell', strV]; done)))
     clear hp; intro w hp
     simp only [List.nil_append, List.cons_append, List.append_nil, List.take_succ_cons, List.take_zero, List.drop_succ_cons, List.drop_zero, List.take_nil, List.drop_nil, Nat.zero_add, Nat.add_zero, Nat.reduceAdd, Int.reduceToNat, Int.toNat_natCast, Nat.reduceMul, Nat.mul_one, Nat.zero_mul] at hp
     refine W_nil ?_
     refine N_done0 (.inl rfl) rfl ?_
     exact ⟨_, rfl, rfl, hp⟩)
  · try (exfalso; first | omega | (simp only [Bool.false_eq_true, reduceCtorEq] at hc1; done) | (refine absurd hc1 ?_; with_reducible assumption) | (refine absurd ?_ hc1; with_reducible assumption))
    all_goals (
     refine K_seq ?_
     fail "not to be reached")

theorem copyCheck_used (w0 : World) (b : Nat) (v : Value) (G : Heap) (w : World) (hp : Hp w0 [] ((b, .cells [.pointer (some ⟨b, 0, none⟩), v].toArray 52) :: G) w) :
    Calls Tryd.prog 43 [.pointer (some ⟨b, 0, none⟩)].toArray w fun e w' => ∃ u, e = .returned u ∧ u = .tuple #[] ∧ Hp w0 [] ((b, .cells [.pointer (some ⟨b, 0, none⟩), v].toArray 52) :: G) w' := by
  refine calls_of_K Tryd.func43 rfl rfl ?_
  refine K_seq ?_
  refine K_region ?_
  refine W_move rfl rfl ?_
  refine W_nilCheck_p rfl rfl ?_
  refine W_fieldAddr Tryd.underlying52 rfl sz50 rfl rfl ?_
  refine W_load_s Tryd.underlying50 rfl rfl (by first | exact hp.cellF (by first | exact List.mem_cons_self | exact .tail _ (.head _) | exact .tail _ (.tail _ (.head _)) | exact .tail _ (.tail _ (.tail _ (.head _))) | exact .tail _ (.tail _ (.tail _ (.tail _ (.head _)))) | exact .tail _ (.tail _ (.tail _ (.tail _ (.tail _ (.head _))))) | exact List.mem_append_right _ (.head _) | exact List.mem_append_right _ (.tail _ (.head _)) | exact List.mem_append_right _ (.tail _ (.tail _ (.head _))) | exact .tail _ (List.mem_append_right _ (.head _)) | exact .tail _ (List.mem_append_right _ (.tail _ (.head _))) | assumption | (repeat (first | exact List.mem_cons_self | apply List.mem_append_right | apply List.mem_cons_of_mem))) rfl | exact hp.cellM (by first | exact List.mem_cons_self | exact .tail _ (.head _) | exact .tail _ (.tail _ (.head _)) | exact .tail _ (.tail _ (.tail _ (.head _))) | exact .tail _ (.tail _ (.tail _ (.tail _ (.head _)))) | exact .tail _ (.tail _ (.tail _ (.tail _ (.tail _ (.head _))))) | exact List.mem_append_right _ (.head _) | exact List.mem_append_right _ (.tail _ (.head _)) | exact List.mem_append_right _ (.tail _ (.tail _ (.head _))) | exact .tail _ (List.mem_append_right _ (.head _)) | exact .tail _ (List.mem_append_right _ (.tail _ (.head _))) | assumption | (repeat (first | exact List.mem_cons_self | apply List.mem_append_right | apply List.mem_cons_of_mem))) rfl | exact hp.cell_old0 ‹_› | (refine hp.cell_old0 ?_; assumption) | (apply hp.cellF (by assumption); rfl)) rfl ?_
  refine W_val rfl (inb_of rfl) (R_bin (v := .bool false) rfl rfl ?_) ?_
  · kernel_rfl
  refine W_nil ?_
  refine N_then_k ?_
  first
    | refine K_cond_d rfl (fun hc1 => ?_) (fun hc1 => ?_)
    | refine K_cond_n rfl (fun hc1 => ?_) (fun hc1 => ?_)
    | refine K_cond_nb rfl (fun hc1 => ?_) (fun hc1 => ?_)
    | refine K_cond_t rfl (fun hc1 => ?_) (fun hc1 => ?_)
  · try (exfalso; first | omega | (simp only [Bool.false_eq_true, reduceCtorEq] at hc1; done) | (refine absurd hc1 ?_; with_reducible assumption) | (refine absurd ?_ hc1; with_reducible assumption))
    all_goals (
     fail "not to be reached")
  · try (exfalso; first | omega | (simp only [Bool.false_eq_true, reduceCtorEq] at hc1; done) | (refine absurd hc1 ?_; with_reducible assumption) | (refine absurd ?_ hc1; with_reducible assumption))
    all_goals (
     refine K_seq ?_
     refine K_region ?_
     refine W_move rfl rfl ?_
     refine W_nilCheck_p rfl rfl ?_
     refine W_fieldAddr Tryd.underlying52 rfl sz50 rfl rfl ?_
     refine W_load_s Tryd.underlying50 rfl rfl (by first | exact hp.cellF (by first | exact List.mem_cons_self | exact .tail _ (.head _) | exact .tail _ (.tail _ (.head _)) | exact .tail _ (.tail _ (.tail _ (.head _))) | exact .tail _ (.tail _ (.tail _ (.tail _ (.head _)))) | exact .tail _ (.tail _ (.tail _ (.tail _ (.tail _ (.head _))))) | exact List.mem_append_right _ (.head _) | exact List.mem_append_right _ (.tail _ (.head _)) | exact List.mem_append_right _ (.tail _ (.tail _ (.head _))) | exact .tail _ (List.mem_append_right _ (.head _)) | exact .tail _ (List.mem_append_right _ (.tail _ (.head _))) | assumption | (repeat (first | exact List.mem_cons_self | apply List.mem_append_right | apply List.mem_cons_of_mem))) rfl | exact hp.cellM (by first | exact List.mem_cons_self | exact .tail _ (.head _) | exact .tail _ (.tail _ (.head _)) | exact .tail _ (.tail _ (.tail _ (.head _))) | exact .tail _ (.tail _ (.tail _ (.tail _ (.head _)))) | exact .tail _ (.tail _ (.tail _ (.tail _ (.tail _ (.head _))))) | exact List.mem_append_right _ (.head _) | exact List.mem_append_right _ (.tail _ (.head _)) | exact List.mem_append_right _ (.tail _ (.tail _ (.head _))) | exact .tail _ (List.mem_append_right _ (.head _)) | exact .tail _ (List.mem_append_right _ (.tail _ (.head _))) | assumption | (repeat (first | exact List.mem_cons_self | apply List.mem_append_right | apply List.mem_cons_of_mem))) rfl | exact hp.cell_old0 ‹_› | (refine hp.cell_old0 ?_; assumption) | (apply hp.cellF (by assumption); rfl)) rfl ?_
     refine W_move rfl rfl ?_
     refine W_val rfl (inb_of rfl) (R_bin (v := .bool false) rfl rfl (bSame b w _ _)) ?_
     refine W_nil ?_
     refine N_then_k ?_
     first
       | refine K_cond_d rfl (fun hc2 => ?_) (fun hc2 => ?_)
       | refine K_cond_n rfl (fun hc2 => ?_) (fun hc2 => ?_)
       | refine K_cond_nb rfl (fun hc2 => ?_) (fun hc2 => ?_)
       | refine K_cond_t rfl (fun hc2 => ?_) (fun hc2 => ?_)
     · try (exfalso; first | omega | (simp only [Bool.false_eq_true, reduceCtorEq] at hc2; done) | (refine absurd hc2 ?_; with_reducible assumption) | (refine absurd ?_ hc2; with_reducible assumption))
       all_goals (
        fail "refused code")
     · try (exfalso; first | omega | (simp only [Bool.false_eq_true, reduceCtorEq] at hc2; done) | (refine absurd hc2 ?_; with_reducible assumption) | (refine absurd ?_ hc2; with_reducible assumption))
       all_goals (
        refine K_skip ?_
        refine N_done0 (.inl rfl) rfl ?_
        exact ⟨_, rfl, rfl, hp⟩))

theorem copyCheck_spec (w0 : World) (b : Nat) (p v : Value) (hpp : p = .pointer none ∨ p = .pointer (some ⟨b, 0, none⟩)) (G : Heap) (w : World) (hp : Hp w0 [] ((b, .cells [p, v].toArray 52) :: G) w) :
    Calls Tryd.prog 43 [.pointer (some ⟨b, 0, none⟩)].toArray w fun e w' => ∃ u, e = .returned u ∧ u = .tuple #[] ∧ Hp w0 [] ((b, .cells [.pointer (some ⟨b, 0, none⟩), v].toArray 52) :: G) w' := by
  rcases hpp with rfl | rfl
  · exact copyCheck_new w0 b v G w hp
  · exact copyCheck_used w0 b v G w hp

theorem writeString_spec (w0 : World) (b : Nat) (p v : Value) (hpp : p = .pointer none ∨ p = .pointer (some ⟨b, 0, none⟩)) (a : List UInt8) (s : List UInt8) (hl : a.length + s.length ≤ 100000000) (Hs G : Heap) (w : World) (hos : OSb 5 v a Hs) (hp : Hp w0 [] ((b, .cells [p, v].toArray 52) :: (Hs ++ G)) w) :
    Calls Tryd.prog 37 [.pointer (some ⟨b, 0, none⟩), .string ⟨s.toArray⟩].toArray w fun e w' => ∃ u, e = .returned u ∧ u = .tuple #[.int .i64 s.length, .nilIface] ∧ ∃ v' Hs', OSb 5 v' (a ++ s) Hs' ∧ Hp w0 [] ((b, .cells [.pointer (some ⟨b, 0, none⟩), v'].toArray 52) :: (Hs' ++ G)) w' := by
  obtain ⟨Av, cv, rfl⟩ := hos.form
  generalize hvv : Value.slice Av a.length cv = v at hos hp
  refine calls_of_K Tryd.func37 rfl rfl ?_
  refine K_seq ?_
  refine K_region ?_
  refine W_assign rfl rfl ?_
  refine W_assign rfl rfl ?_
  refine W_nil ?_
  refine N_then_k ?_
  refine K_seq ?_
  refine K_region ?_
  refine W_move rfl rfl ?_
  refine W_call rfl rfl rfl (CallV.static go43 (copyCheck_spec w0 b p v hpp _ w hp)) (fun u w2 hr => ?_)
  obtain ⟨rfl, hp2⟩ := hr
  clear hp; revert hp2; generalize w2 = w; intro hp
  refine W_nil ?_
  refine N_then_k ?_
  refine K_seq ?_
  refine K_region ?_
  refine W_move rfl rfl ?_
  refine W_move rfl rfl ?_
  refine W_nilCheck_p rfl rfl ?_
  refine W_fieldAddr Tryd.underlying52 rfl sz44 rfl rfl ?_
  refine W_load_s Tryd.underlying44 rfl rfl (by first | exact hp.cellF (by first | exact List.mem_cons_self | exact .tail _ (.head _) | exact .tail _ (.tail _ (.head _)) | exact .tail _ (.tail _ (.tail _ (.head _))) | exact .tail _ (.tail _ (.tail _ (.tail _ (.head _)))) | exact .tail _ (.tail _ (.tail _ (.tail _ (.tail _ (.head _))))) | exact List.mem_append_right _ (.head _) | exact List.mem_append_right _ (.tail _ (.head _)) | exact List.mem_append_right _ (.tail _ (.tail _ (.head _))) | exact .tail _ (List.mem_append_right _ (.head _)) | exact .tail _ (List.mem_append_right _ (.tail _ (.head _))) | assumption | (repeat (first | exact List.mem_cons_self | apply List.mem_append_right | apply List.mem_cons_of_mem))) rfl | exact hp.cellM (by first | exact List.mem_cons_self | exact .tail _ (.head _) | exact .tail _ (.tail _ (.head _)) | exact .tail _ (.tail _ (.tail _ (.head _))) | exact .tail _ (.tail _ (.tail _ (.tail _ (.head _)))) | exact .tail _ (.tail _ (.tail _ (.tail _ (.tail _ (.head _))))) | exact List.mem_append_right _ (.head _) | exact List.mem_append_right _ (.tail _ (.head _)) | exact List.mem_append_right _ (.tail _ (.tail _ (.head _))) | exact .tail _ (List.mem_append_right _ (.head _)) | exact .tail _ (List.mem_append_right _ (.tail _ (.head _))) | assumption | (repeat (first | exact List.mem_cons_self | apply List.mem_append_right | apply List.mem_cons_of_mem))) rfl | exact hp.cell_old0 ‹_› | (refine hp.cell_old0 ?_; assumption) | (apply hp.cellF (by assumption); rfl)) rfl ?_
  refine W_move rfl rfl ?_
  refine W_append_str (A := [_]) (B := G) rfl hp rfl Tryd.underlying44 Tryd.underlying9 sz5 pb5 zv5 rfl rfl hos ?_ rfl ?_
  · omega
  clear hp; intro va14 Hs w hos hp
  replace hos := OSb.app (b := s) hos
  obtain ⟨Aa14, ca14, rfl⟩ := hos.form
  refine W_nilCheck_p rfl rfl ?_
  refine W_fieldAddr Tryd.underlying52 rfl sz44 rfl rfl ?_
  first
    | (refine W_storeF (A := []) hp rfl sz44 rfl rfl rfl rfl ?_ ?_ ?_ rfl ?_; (focus first | exact Nat.le_of_ble_eq_true rfl | omega | (simp; omega)); (focus first | exact .inl (Nat.zero_le _) | omega); (focus first | (intro v hv; simp at hv; subst hv; rfl) | (simp [Value.oneCell']; done) | (simp [Value.oneCell', strV]; done) | (simp [Value.cells, Value.oneCell', strV]; done)))
    | (refine W_storeF (A := [_]) hp rfl sz44 rfl rfl rfl rfl ?_ ?_ ?_ rfl ?_; (focus first | exact Nat.le_of_ble_eq_true rfl | omega | (simp; omega)); (focus first | exact .inl (Nat.zero_le _) | omega); (focus first | (intro v hv; simp at hv; subst hv; rfl) | (simp [Value.oneCell']; done) | (simp [Value.oneCell', strV]; done) | (simp [Value.cells, Value.oneCell', strV]; done)))
    | (refine W_storeF (A := [_, _]) hp rfl sz44 rfl rfl rfl rfl ?_ ?_ ?_ rfl ?_; (focus first | exact Nat.le_of_ble_eq_true rfl | omega | (simp; omega)); (focus first | exact .inl (Nat.zero_le _) | omega); (focus first | (intro v hv; simp at hv; subst hv; rfl) | (simp [Value.oneCell']; done) | (simp [Value.oneCell', strV]; done) | (simp [Value.cells, Value.oneCell', strV]; done)))
    | (refine W_storeF (A := [_, _, _]) hp rfl sz44 rfl rfl rfl rfl ?_ ?_ ?_ rfl ?_; (focus first | exact Nat.le_of_ble_eq_true rfl | omega | (simp; omega)); (focus first | exact .inl (Nat.zero_le _) | omega); (focus first | (intro v hv; simp at hv; subst hv; rfl) | (simp [Value.oneCell']; done) | (simp [Value.oneCell', strV]; done) | (simp [Value.cells, Value.oneCell', strV]; done)))
    | (refine W_storeF (A := [_, _, _, _]) hp rfl sz44 rfl rfl rfl rfl ?_ ?_ ?_ rfl ?_; (focus first | exact Nat.le_of_ble_eq_true rfl | omega | (simp; omega)); (focus first | exact .inl (Nat.zero_le _) | omega); (focus first | (intro v hv; simp at hv; subst hv; rfl) | (simp [Value.oneCell']; done) | (simp [Value.oneCell', strV]; done) | (simp [Value.cells, Value.oneCell', strV]; done)))
    | (refine W_storeF (A := [_, _, _, _, _]) hp rfl sz44 rfl rfl rfl rfl ?_ ?_ ?_ rfl ?_; (focus first | exact Nat.le_of_ble_eq_true rfl | omega | (simp; omega)); (focus first | exact .inl (Nat.zero_le _) | omega); (focus first | (intro v hv; simp at hv; subst hv; rfl) | (simp [Value.oneCell']; done) | (simp [Value.oneCell', strV]; done) | (simp [Value.cells, Value.oneCell', strV]; done)))
    | (refine W_storeM (A := []) hp rfl sz44 rfl rfl rfl rfl ?_ ?_ ?_ rfl ?_; (focus first | exact Nat.le_of_ble_eq_true rfl | omega | (simp; omega)); (focus first | exact .inl (Nat.zero_le _) | omega); (focus first | (intro v hv; simp at hv; subst hv; rfl) | (simp [Value.oneCell']; done) | (simp [Value.oneCell', strV]; done) | (simp [Value.cells, Value.oneCell', strV]; done)))
    | (refine W_storeM (A := [_]) hp rfl sz44 rfl rfl rfl rfl ?_ ?_ ?_ rfl ?_; (focus first | exact Nat.le_of_ble_eq_true rfl | omega | (simp; omega)); (focus first | exact .inl (Nat.zero_le _) | omega); (focus first | (intro v hv; simp at hv; subst hv; rfl) | (simp [Value.oneCell']; done) | (simp [Value.oneCell', strV]; done) | (simp [Value.cells, Value.oneCell', strV]; done)))
    | (refine W_storeM (A := [_, _]) hp rfl sz44 rfl rfl rfl rfl ?_ ?_ ?_ rfl ?_; (focus first | exact Nat.le_of_ble_eq_true rfl | omega | (simp; omega)); (focus first | exact .inl (Nat.zero_le _) | omega); (focus first | (intro v hv; simp at hv; subst hv; rfl) | (simp [Value.oneCell']; done) | (simp [Value.oneCell', strV]; done) | (simp [Value.cells, Value.oneCell', strV]; done)))
    | (refine W_storeP hp sz44 rfl rfl rfl rfl (by repeat (first | exact Pick.here | apply Pick.cons | apply Pick.app)) ?_ ?_ ?_ rfl ?_; (focus first | exact Nat.le_of_ble_eq_true rfl | omega | (simp; omega)); (focus first | exact .inl (Nat.zero_le _) | omega); (focus first | (intro v hv; simp at hv; subst hv; rfl) | (simp [Value.oneCell']; done) | (simp [Value.oneCell', strV]; done) | (simp [Value.cells, Value.oneCell', strV]; done)))
  clear hp; intro w hp
  simp only [List.nil_append, List.cons_append, List.append_nil, List.take_succ_cons, List.take_zero, List.drop_succ_cons, List.drop_zero, List.take_nil, List.drop_nil, Nat.zero_add, Nat.add_zero, Nat.reduceAdd, Int.reduceToNat, Int.toNat_natCast, Nat.reduceMul, Nat.mul_one, Nat.zero_mul] at hp
  refine W_nil ?_
  refine N_then_k ?_
  refine K_seq ?_
  refine K_region ?_
  refine W_move rfl rfl ?_
  refine W_len_s Tryd.underlying9 rfl rfl ?_
  refine W_assign rfl rfl ?_
  refine W_assign rfl rfl ?_
  refine W_nil ?_
  refine N_then_k ?_
  refine K_ret ?_
  refine N_done2 (.inr rfl) rfl rfl rfl ?_
  exact ⟨_, rfl, rfl, _, _, hos, hp⟩

theorem writeString_none (w0 : World) (b : Nat) (p v : Value) (hpp : p = .pointer none ∨ p = .pointer (some ⟨b, 0, none⟩)) (a : List UInt8) (Hs G : Heap) (w : World) (hos : OSb 5 v a Hs) (hp : Hp w0 [] ((b, .cells [p, v].toArray 52) :: (Hs ++ G)) w) :
    Calls Tryd.prog 37 [.pointer (some ⟨b, 0, none⟩), .string ⟨([] : List UInt8).toArray⟩].toArray w fun e w' => ∃ u, e = .returned u ∧ u = .tuple #[.int .i64 (([] : List UInt8).length : Nat), .nilIface] ∧ Hp w0 [] ((b, .cells [.pointer (some ⟨b, 0, none⟩), v].toArray 52) :: (Hs ++ G)) w' := by
  obtain ⟨Av, cv, rfl⟩ := hos.form
  refine calls_of_K Tryd.func37 rfl rfl ?_
  refine K_seq ?_
  refine K_region ?_
  refine W_assign rfl rfl ?_
  refine W_assign rfl rfl ?_
  refine W_nil ?_
  refine N_then_k ?_
  refine K_seq ?_
  refine K_region ?_
  refine W_move rfl rfl ?_
  refine W_call rfl rfl rfl (CallV.static go43 (copyCheck_spec w0 b p _ hpp _ w hp)) (fun u w2 hr => ?_)
  obtain ⟨rfl, hp2⟩ := hr
  clear hp; revert hp2; generalize w2 = w; intro hp
  refine W_nil ?_
  refine N_then_k ?_
  refine K_seq ?_
  refine K_region ?_
  refine W_move rfl rfl ?_
  refine W_move rfl rfl ?_
  refine W_nilCheck_p rfl rfl ?_
  refine W_fieldAddr Tryd.underlying52 rfl sz44 rfl rfl ?_
  refine W_load_s Tryd.underlying44 rfl rfl (by first | exact hp.cellF (by first | exact List.mem_cons_self | exact .tail _ (.head _) | exact .tail _ (.tail _ (.head _)) | exact .tail _ (.tail _ (.tail _ (.head _))) | exact .tail _ (.tail _ (.tail _ (.tail _ (.head _)))) | exact .tail _ (.tail _ (.tail _ (.tail _ (.tail _ (.head _))))) | exact List.mem_append_right _ (.head _) | exact List.mem_append_right _ (.tail _ (.head _)) | exact List.mem_append_right _ (.tail _ (.tail _ (.head _))) | exact .tail _ (List.mem_append_right _ (.head _)) | exact .tail _ (List.mem_append_right _ (.tail _ (.head _))) | assumption | (repeat (first | exact List.mem_cons_self | apply List.mem_append_right | apply List.mem_cons_of_mem))) rfl | exact hp.cellM (by first | exact List.mem_cons_self | exact .tail _ (.head _) | exact .tail _ (.tail _ (.head _)) | exact .tail _ (.tail _ (.tail _ (.head _))) | exact .tail _ (.tail _ (.tail _ (.tail _ (.head _)))) | exact .tail _ (.tail _ (.tail _ (.tail _ (.tail _ (.head _))))) | exact List.mem_append_right _ (.head _) | exact List.mem_append_right _ (.tail _ (.head _)) | exact List.mem_append_right _ (.tail _ (.tail _ (.head _))) | exact .tail _ (List.mem_append_right _ (.head _)) | exact .tail _ (List.mem_append_right _ (.tail _ (.head _))) | assumption | (repeat (first | exact List.mem_cons_self | apply List.mem_append_right | apply List.mem_cons_of_mem))) rfl | exact hp.cell_old0 ‹_› | (refine hp.cell_old0 ?_; assumption) | (apply hp.cellF (by assumption); rfl)) rfl ?_
  refine W_move rfl rfl ?_
  refine W_append_none rfl Tryd.underlying44 Tryd.underlying9 sz5 pb5 zv5 rfl rfl hos rfl ?_
  refine W_nilCheck_p rfl rfl ?_
  refine W_fieldAddr Tryd.underlying52 rfl sz44 rfl rfl ?_
  first
    | (refine W_storeF (A := []) hp rfl sz44 rfl rfl rfl rfl ?_ ?_ ?_ rfl ?_; (focus first | exact Nat.le_of_ble_eq_true rfl | omega | (simp; omega)); (focus first | exact .inl (Nat.zero_le _) | omega); (focus first | (intro v hv; simp at hv; subst hv; rfl) | (simp [Value.oneCell']; done) | (simp [Value.oneCell', strV]; done) | (simp [Value.cells, Value.oneCell', strV]; done)))
    | (refine W_storeF (A := [_]) hp rfl sz44 rfl rfl rfl rfl ?_ ?_ ?_ rfl ?_; (focus first | exact Nat.le_of_ble_eq_true rfl | omega | (simp; omega)); (focus first | exact .inl (Nat.zero_le _) | omega); (focus first | (intro v hv; simp at hv; subst hv; rfl) | (simp [Value.oneCell']; done) | (simp [Value.oneCell', strV]; done) | (simp [Value.cells, Value.oneCell', strV]; done)))
    | (refine W_storeF (A := [_, _]) hp rfl sz44 rfl rfl rfl rfl ?_ ?_ ?_ rfl ?_; (focus first | exact Nat.le_of_ble_eq_true rfl | omega | (simp; omega)); (focus first | exact .inl (Nat.zero_le _) | omega); (focus first | (intro v hv; simp at hv; subst hv; rfl) | (simp [Value.oneCell']; done) | (simp [Value.oneCell', strV]; done) | (simp [Value.cells, Value.oneCell', strV]; done)))
    | (refine W_storeF (A := [_, _, _]) hp rfl sz44 rfl rfl rfl rfl ?_ ?_ ?_ rfl ?_; (focus first | exact Nat.le_of_ble_eq_true rfl | omega | (simp; omega)); (focus first | exact .inl (Nat.zero_le _) | omega); (focus first | (intro v hv; simp at hv; subst hv; rfl) | (simp [Value.oneCell']; done) | (simp [Value.oneCell', strV]; done) | (simp [Value.cells, Value.oneCell', strV]; done)))
    | (refine W_storeF (A := [_, _, _, _]) hp rfl sz44 rfl rfl rfl rfl ?_ ?_ ?_ rfl ?_; (focus first | exact Nat.le_of_ble_eq_true rfl | omega | (simp; omega)); (focus first | exact .inl (Nat.zero_le _) | omega); (focus first | (intro v hv; simp at hv; subst hv; rfl) | (simp [Value.oneCell']; done) | (simp [Value.oneCell', strV]; done) | (simp [Value.cells, Value.oneCell', strV]; done)))
    | (refine W_storeF (A := [_, _, _, _, _]) hp rfl sz44 rfl rfl rfl rfl ?_ ?_ ?_ rfl ?_; (focus first | exact Nat.le_of_ble_eq_true rfl | omega | (simp; omega)); (focus first | exact .inl (Nat.zero_le _) | omega); (focus first | (intro v hv; simp at hv; subst hv; rfl) | (simp [Value.oneCell']; done) | (simp [Value.oneCell', strV]; done) | (simp [Value.cells, Value.oneCell', strV]; done)))
    | (refine W_storeM (A := []) hp rfl sz44 rfl rfl rfl rfl ?_ ?_ ?_ rfl ?_; (focus first | exact Nat.le_of_ble_eq_true rfl | omega | (simp; omega)); (focus first | exact .inl (Nat.zero_le _) | omega); (focus first | (intro v hv; simp at hv; subst hv; rfl) | (simp [Value.oneCell']; done) | (simp [Value.oneCell', strV]; done) | (simp [Value.cells, Value.oneCell', strV]; done)))
    | (refine W_storeM (A := [_]) hp rfl sz44 rfl rfl rfl rfl ?_ ?_ ?_ rfl ?_; (focus first | exact Nat.le_of_ble_eq_true rfl | omega | (simp; omega)); (focus first | exact .inl (Nat.zero_le _) | omega); (focus first | (intro v hv; simp at hv; subst hv; rfl) | (simp [Value.oneCell']; done) | (simp [Value.oneCell', strV]; done) | (simp [Value.cells, Value.oneCell', strV]; done)))
    | (refine W_storeM (A := [_, _]) hp rfl sz44 rfl rfl rfl rfl ?_ ?_ ?_ rfl ?_; (focus first | exact Nat.le_of_ble_eq_true rfl | omega | (simp; omega)); (focus first | exact .inl (Nat.zero_le _) | omega); (focus first | (intro v hv; simp at hv; subst hv; rfl) | (simp [Value.oneCell']; done) | (simp [Value.oneCell', strV]; done) | (simp [Value.cells, Value.oneCell', strV]; done)))
    | (refine W_storeP hp sz44 rfl rfl rfl rfl (by repeat (first | exact Pick.here | apply Pick.cons | apply Pick.app)) ?_ ?_ ?_ rfl ?_; (focus first | exact Nat.le_of_ble_eq_true rfl | omega | (simp; omega)); (focus first | exact .inl (Nat.zero_le _) | omega); (focus first | (intro v hv; simp at hv; subst hv; rfl) | (simp [Value.oneCell']; done) | (simp [Value.oneCell', strV]; done) | (simp [Value.cells, Value.oneCell', strV]; done)))
  clear hp; intro w hp
  simp only [List.nil_append, List.cons_append, List.append_nil, List.take_succ_cons, List.take_zero, List.drop_succ_cons, List.drop_zero, List.take_nil, List.drop_nil, Nat.zero_add, Nat.add_zero, Nat.reduceAdd, Int.reduceToNat, Int.toNat_natCast, Nat.reduceMul, Nat.mul_one, Nat.zero_mul] at hp
  refine W_nil ?_
  refine N_then_k ?_
  refine K_seq ?_
  refine K_region ?_
  refine W_move rfl rfl ?_
  refine W_len_s Tryd.underlying9 rfl rfl ?_
  refine W_assign rfl rfl ?_
  refine W_assign rfl rfl ?_
  refine W_nil ?_
  refine N_then_k ?_
  refine K_ret ?_
  refine N_done2 (.inr rfl) rfl rfl rfl ?_
  exact ⟨_, rfl, rfl, hp⟩

theorem xMakeNoZero : ExtFn Tryd.prog 52 (Go.Extern.BytealgMakeNoZero.makeNoZero #[3] #[44]) := ⟨Tryd.f52, Tryd.func52, by kernel_rfl, by kernel_rfl, by kernel_rfl, by kernel_rfl⟩

theorem growIn_spec (w0 : World) (b k : Nat) (h0 : 0 < k) (hk : k ≤ 140737488355328) (G : Heap) (w : World) (hp : Hp w0 [] ((b, .cells [.pointer (some ⟨b, 0, none⟩), .slice none 0 0].toArray 52) :: G) w) :
    Calls Tryd.prog 44 [.pointer (some ⟨b, 0, none⟩), .int .i64 (k : Int)].toArray w fun e w' => ∃ u, e = .returned u ∧ u = .tuple #[] ∧ ∃ v' Hs', OSb 5 v' [] Hs' ∧ CapOk v' ∧ Hp w0 [] ((b, .cells [.pointer (some ⟨b, 0, none⟩), v'].toArray 52) :: (Hs' ++ G)) w' := by
  refine calls_of_K Tryd.func44 rfl rfl ?_
  refine K_seq ?_
  refine K_heldp (.first 0 (.first 1 (.first 2 (.first 3 (.first 4 (.first 5 (.first 6 (.first 7 (.first 9 (.first 10 (.first 11 (.first 12 (.first 13 (.only 8 (.first 14 (.first 15 .done)))))))))))))))) hm hp (by kernel_rfl) (by kernel_rfl) (.first rfl (.first rfl (.first rfl (.first rfl (.first rfl (.first rfl (.first rfl (.first rfl (.first rfl (.first rfl (.first rfl (.first rfl (.first rfl (.only rfl (.first rfl (.first rfl .done)))))))))))))))) ?_
  clear hp; intro w hp
  refine Wh_val (by first | exact hp | exact trivial | (refine hp.drop ?_; repeat (first | exact List.Sublist.refl _ | exact List.nil_sublist _ | refine List.Sublist.cons_cons _ ?_ | apply List.sublist_append_of_sublist_right | apply List.Sublist.cons))) (fun w hp => R_move rfl) rfl ?_
  refine Wh_val (by first | exact hp | exact trivial | (refine hp.drop ?_; repeat (first | exact List.Sublist.refl _ | exact List.nil_sublist _ | refine List.Sublist.cons_cons _ ?_ | apply List.sublist_append_of_sublist_right | apply List.Sublist.cons))) (fun w hp => R_nilCheck_p rfl) rfl ?_
  refine Wh_val (by first | exact hp | exact trivial | (refine hp.drop ?_; repeat (first | exact List.Sublist.refl _ | exact List.nil_sublist _ | refine List.Sublist.cons_cons _ ?_ | apply List.sublist_append_of_sublist_right | apply List.Sublist.cons))) (fun w hp => R_fieldAddr Tryd.underlying52 rfl sz44 rfl) rfl ?_
  refine Wh_val (by first | exact hp | exact trivial | (refine hp.drop ?_; repeat (first | exact List.Sublist.refl _ | exact List.nil_sublist _ | refine List.Sublist.cons_cons _ ?_ | apply List.sublist_append_of_sublist_right | apply List.Sublist.cons))) (fun w hp => R_load_s Tryd.underlying44 rfl rfl (by first | exact hp.cellF (by first | exact List.mem_cons_self | exact .tail _ (.head _) | exact .tail _ (.tail _ (.head _)) | exact .tail _ (.tail _ (.tail _ (.head _))) | exact .tail _ (.tail _ (.tail _ (.tail _ (.head _)))) | exact .tail _ (.tail _ (.tail _ (.tail _ (.tail _ (.head _))))) | exact List.mem_append_right _ (.head _) | exact List.mem_append_right _ (.tail _ (.head _)) | exact List.mem_append_right _ (.tail _ (.tail _ (.head _))) | exact .tail _ (List.mem_append_right _ (.head _)) | exact .tail _ (List.mem_append_right _ (.tail _ (.head _))) | assumption | (repeat (first | exact List.mem_cons_self | apply List.mem_append_right | apply List.mem_cons_of_mem))) rfl | exact hp.cellM (by first | exact List.mem_cons_self | exact .tail _ (.head _) | exact .tail _ (.tail _ (.head _)) | exact .tail _ (.tail _ (.tail _ (.head _))) | exact .tail _ (.tail _ (.tail _ (.tail _ (.head _)))) | exact .tail _ (.tail _ (.tail _ (.tail _ (.tail _ (.head _))))) | exact List.mem_append_right _ (.head _) | exact List.mem_append_right _ (.tail _ (.head _)) | exact List.mem_append_right _ (.tail _ (.tail _ (.head _))) | exact .tail _ (List.mem_append_right _ (.head _)) | exact .tail _ (List.mem_append_right _ (.tail _ (.head _))) | assumption | (repeat (first | exact List.mem_cons_self | apply List.mem_append_right | apply List.mem_cons_of_mem))) rfl | exact hp.cell_old0 ‹_› | (refine hp.cell_old0 ?_; assumption) | (apply hp.cellF (by assumption); rfl))) rfl ?_
  refine Wh_val (by first | exact hp | exact trivial | (refine hp.drop ?_; repeat (first | exact List.Sublist.refl _ | exact List.nil_sublist _ | refine List.Sublist.cons_cons _ ?_ | apply List.sublist_append_of_sublist_right | apply List.Sublist.cons))) (fun w hp => R_cap_sl Tryd.underlying44 rfl) rfl ?_
  first
    | (refine Wh_val (by first | exact hp | exact trivial | (refine hp.drop ?_; repeat (first | exact List.Sublist.refl _ | exact List.nil_sublist _ | refine List.Sublist.cons_cons _ ?_ | apply List.sublist_append_of_sublist_right | apply List.Sublist.cons))) (fun w hp => R_mul rfl rfl (wr_i64 ?_)) rfl ?_; (focus (omega)))
    | (refine Wh_val (by first | exact hp | exact trivial | (refine hp.drop ?_; repeat (first | exact List.Sublist.refl _ | exact List.nil_sublist _ | refine List.Sublist.cons_cons _ ?_ | apply List.sublist_append_of_sublist_right | apply List.Sublist.cons))) (fun w hp => R_mul rfl rfl rfl) rfl ?_)
  refine Wh_val (by first | exact hp | exact trivial | (refine hp.drop ?_; repeat (first | exact List.Sublist.refl _ | exact List.nil_sublist _ | refine List.Sublist.cons_cons _ ?_ | apply List.sublist_append_of_sublist_right | apply List.Sublist.cons))) (fun w hp => R_move rfl) rfl ?_
  first
    | (refine Wh_val (by first | exact hp | exact trivial | (refine hp.drop ?_; repeat (first | exact List.Sublist.refl _ | exact List.nil_sublist _ | refine List.Sublist.cons_cons _ ?_ | apply List.sublist_append_of_sublist_right | apply List.Sublist.cons))) (fun w hp => R_add rfl rfl (wr_i64 ?_)) rfl ?_; (focus (omega)))
    | (refine Wh_val (by first | exact hp | exact trivial | (refine hp.drop ?_; repeat (first | exact List.Sublist.refl _ | exact List.nil_sublist _ | refine List.Sublist.cons_cons _ ?_ | apply List.sublist_append_of_sublist_right | apply List.Sublist.cons))) (fun w hp => R_add rfl rfl rfl) rfl ?_)
  refine Wh_val (by first | exact hp | exact trivial | (refine hp.drop ?_; repeat (first | exact List.Sublist.refl _ | exact List.nil_sublist _ | refine List.Sublist.cons_cons _ ?_ | apply List.sublist_append_of_sublist_right | apply List.Sublist.cons))) (fun w hp => R_move rfl) rfl ?_
  refine Wh_val (by first | exact hp | exact trivial | (refine hp.drop ?_; repeat (first | exact List.Sublist.refl _ | exact List.nil_sublist _ | refine List.Sublist.cons_cons _ ?_ | apply List.sublist_append_of_sublist_right | apply List.Sublist.cons))) (fun w hp => R_nilCheck_p rfl) rfl ?_
  refine Wh_val (by first | exact hp | exact trivial | (refine hp.drop ?_; repeat (first | exact List.Sublist.refl _ | exact List.nil_sublist _ | refine List.Sublist.cons_cons _ ?_ | apply List.sublist_append_of_sublist_right | apply List.Sublist.cons))) (fun w hp => R_fieldAddr Tryd.underlying52 rfl sz44 rfl) rfl ?_
  refine Wh_val (by first | exact hp | exact trivial | (refine hp.drop ?_; repeat (first | exact List.Sublist.refl _ | exact List.nil_sublist _ | refine List.Sublist.cons_cons _ ?_ | apply List.sublist_append_of_sublist_right | apply List.Sublist.cons))) (fun w hp => R_load_s Tryd.underlying44 rfl rfl (by first | exact hp.cellF (by first | exact List.mem_cons_self | exact .tail _ (.head _) | exact .tail _ (.tail _ (.head _)) | exact .tail _ (.tail _ (.tail _ (.head _))) | exact .tail _ (.tail _ (.tail _ (.tail _ (.head _)))) | exact .tail _ (.tail _ (.tail _ (.tail _ (.tail _ (.head _))))) | exact List.mem_append_right _ (.head _) | exact List.mem_append_right _ (.tail _ (.head _)) | exact List.mem_append_right _ (.tail _ (.tail _ (.head _))) | exact .tail _ (List.mem_append_right _ (.head _)) | exact .tail _ (List.mem_append_right _ (.tail _ (.head _))) | assumption | (repeat (first | exact List.mem_cons_self | apply List.mem_append_right | apply List.mem_cons_of_mem))) rfl | exact hp.cellM (by first | exact List.mem_cons_self | exact .tail _ (.head _) | exact .tail _ (.tail _ (.head _)) | exact .tail _ (.tail _ (.tail _ (.head _))) | exact .tail _ (.tail _ (.tail _ (.tail _ (.head _)))) | exact .tail _ (.tail _ (.tail _ (.tail _ (.tail _ (.head _))))) | exact List.mem_append_right _ (.head _) | exact List.mem_append_right _ (.tail _ (.head _)) | exact List.mem_append_right _ (.tail _ (.tail _ (.head _))) | exact .tail _ (List.mem_append_right _ (.head _)) | exact .tail _ (List.mem_append_right _ (.tail _ (.head _))) | assumption | (repeat (first | exact List.mem_cons_self | apply List.mem_append_right | apply List.mem_cons_of_mem))) rfl | exact hp.cell_old0 ‹_› | (refine hp.cell_old0 ?_; assumption) | (apply hp.cellF (by assumption); rfl))) rfl ?_
  refine Wh_val (by first | exact hp | exact trivial | (refine hp.drop ?_; repeat (first | exact List.Sublist.refl _ | exact List.nil_sublist _ | refine List.Sublist.cons_cons _ ?_ | apply List.sublist_append_of_sublist_right | apply List.Sublist.cons))) (fun w hp => R_len_sl Tryd.underlying44 rfl) rfl ?_
  refine Wh_step ?_
  refine W_madenz (k := k) hp xMakeNoZero rfl (by omega) Tryd.underlying44 (by omega) rfl ?_
  clear hp; intro g cs w hc1 hc2 hp
  refine W_nil ?_
  refine Wh_next (by first | exact hp | exact trivial | (refine hp.drop ?_; repeat (first | exact List.Sublist.refl _ | exact List.nil_sublist _ | refine List.Sublist.cons_cons _ ?_ | apply List.sublist_append_of_sublist_right | apply List.Sublist.cons))) ?_
  refine Wh_val (by first | exact hp | exact trivial | (refine hp.drop ?_; repeat (first | exact List.Sublist.refl _ | exact List.nil_sublist _ | refine List.Sublist.cons_cons _ ?_ | apply List.sublist_append_of_sublist_right | apply List.Sublist.cons))) (fun w hp => R_cut_h Tryd.underlying44 sz5 rfl rfl (by omega) (by omega)) rfl ?_
  refine Wh_val (by first | exact hp | exact trivial | (refine hp.drop ?_; repeat (first | exact List.Sublist.refl _ | exact List.nil_sublist _ | refine List.Sublist.cons_cons _ ?_ | apply List.sublist_append_of_sublist_right | apply List.Sublist.cons))) (fun w hp => R_assign rfl) rfl ?_
  refine Wh_nil ?_
  refine N_then_k ?_
  refine K_seq ?_
  refine K_region ?_
  refine W_move rfl rfl ?_
  refine W_move rfl rfl ?_
  refine W_nilCheck_p rfl rfl ?_
  refine W_fieldAddr Tryd.underlying52 rfl sz44 rfl rfl ?_
  refine W_load_s Tryd.underlying44 rfl rfl (by first | exact hp.cellF (by first | exact List.mem_cons_self | exact .tail _ (.head _) | exact .tail _ (.tail _ (.head _)) | exact .tail _ (.tail _ (.tail _ (.head _))) | exact .tail _ (.tail _ (.tail _ (.tail _ (.head _)))) | exact .tail _ (.tail _ (.tail _ (.tail _ (.tail _ (.head _))))) | exact List.mem_append_right _ (.head _) | exact List.mem_append_right _ (.tail _ (.head _)) | exact List.mem_append_right _ (.tail _ (.tail _ (.head _))) | exact .tail _ (List.mem_append_right _ (.head _)) | exact .tail _ (List.mem_append_right _ (.tail _ (.head _))) | assumption | (repeat (first | exact List.mem_cons_self | apply List.mem_append_right | apply List.mem_cons_of_mem))) rfl | exact hp.cellM (by first | exact List.mem_cons_self | exact .tail _ (.head _) | exact .tail _ (.tail _ (.head _)) | exact .tail _ (.tail _ (.tail _ (.head _))) | exact .tail _ (.tail _ (.tail _ (.tail _ (.head _)))) | exact .tail _ (.tail _ (.tail _ (.tail _ (.tail _ (.head _))))) | exact List.mem_append_right _ (.head _) | exact List.mem_append_right _ (.tail _ (.head _)) | exact List.mem_append_right _ (.tail _ (.tail _ (.head _))) | exact .tail _ (List.mem_append_right _ (.head _)) | exact .tail _ (List.mem_append_right _ (.tail _ (.head _))) | assumption | (repeat (first | exact List.mem_cons_self | apply List.mem_append_right | apply List.mem_cons_of_mem))) rfl | exact hp.cell_old0 ‹_› | (refine hp.cell_old0 ?_; assumption) | (apply hp.cellF (by assumption); rfl)) rfl ?_
  refine W_val rfl (inb_of rfl) (R_copy_nil Tryd.underlying44 sz5 rfl rfl) ?_
  refine W_nil ?_
  refine N_then_k ?_
  refine K_region ?_
  refine W_move rfl rfl ?_
  refine W_move rfl rfl ?_
  refine W_nilCheck_p rfl rfl ?_
  refine W_fieldAddr Tryd.underlying52 rfl sz44 rfl rfl ?_
  first
    | (refine W_storeF (A := []) hp rfl sz44 rfl rfl rfl rfl ?_ ?_ ?_ rfl ?_; (focus first | exact Nat.le_of_ble_eq_true rfl | omega | (simp; omega)); (focus first | exact .inl (Nat.zero_le _) | omega); (focus first | (intro v hv; simp at hv; subst hv; rfl) | (simp [Value.oneCell']; done) | (simp [Value.oneCell', strV]; done) | (simp [Value.cells, Value.oneCell', strV]; done)))
    | (refine W_storeF (A := [_]) hp rfl sz44 rfl rfl rfl rfl ?_ ?_ ?_ rfl ?_; (focus first | exact Nat.le_of_ble_eq_true rfl | omega | (simp; omega)); (focus first | exact .inl (Nat.zero_le _) | omega); (focus first | (intro v hv; simp at hv; subst hv; rfl) | (simp [Value.oneCell']; done) | (simp [Value.oneCell', strV]; done) | (simp [Value.cells, Value.oneCell', strV]; done)))
    | (refine W_storeF (A := [_, _]) hp rfl sz44 rfl rfl rfl rfl ?_ ?_ ?_ rfl ?_; (focus first | exact Nat.le_of_ble_eq_true rfl | omega | (simp; omega)); (focus first | exact .inl (Nat.zero_le _) | omega); (focus first | (intro v hv; simp at hv; subst hv; rfl) | (simp [Value.oneCell']; done) | (simp [Value.oneCell', strV]; done) | (simp [Value.cells, Value.oneCell', strV]; done)))
    | (refine W_storeF (A := [_, _, _]) hp rfl sz44 rfl rfl rfl rfl ?_ ?_ ?_ rfl ?_; (focus first | exact Nat.le_of_ble_eq_true rfl | omega | (simp; omega)); (focus first | exact .inl (Nat.zero_le _) | omega); (focus first | (intro v hv; simp at hv; subst hv; rfl) | (simp [Value.oneCell']; done) | (simp [Value.oneCell', strV]; done) | (simp [Value.cells, Value.oneCell', strV]; done)))
    | (refine W_storeF (A := [_, _, _, _]) hp rfl sz44 rfl rfl rfl rfl ?_ ?_ ?_ rfl ?_; (focus first | exact Nat.le_of_ble_eq_true rfl | omega | (simp; omega)); (focus first | exact .inl (Nat.zero_le _) | omega); (focus first | (intro v hv; simp at hv; subst hv; rfl) | (simp [Value.oneCell']; done) | (simp [Value.oneCell', strV]; done) | (simp [Value.cells, Value.oneCell', strV]; done)))
    | (refine W_storeF (A := [_, _, _, _, _]) hp rfl sz44 rfl rfl rfl rfl ?_ ?_ ?_ rfl ?_; (focus first | exact Nat.le_of_ble_eq_true rfl | omega | (simp; omega)); (focus first | exact .inl (Nat.zero_le _) | omega); (focus first | (intro v hv; simp at hv; subst hv; rfl) | (simp [Value.oneCell']; done) | (simp [Value.oneCell', strV]; done) | (simp [Value.cells, Value.oneCell', strV]; done)))
    | (refine W_storeM (A := []) hp rfl sz44 rfl rfl rfl rfl ?_ ?_ ?_ rfl ?_; (focus first | exact Nat.le_of_ble_eq_true rfl | omega | (simp; omega)); (focus first | exact .inl (Nat.zero_le _) | omega); (focus first | (intro v hv; simp at hv; subst hv; rfl) | (simp [Value.oneCell']; done) | (simp [Value.oneCell', strV]; done) | (simp [Value.cells, Value.oneCell', strV]; done)))
    | (refine W_storeM (A := [_]) hp rfl sz44 rfl rfl rfl rfl ?_ ?_ ?_ rfl ?_; (focus first | exact Nat.le_of_ble_eq_true rfl | omega | (simp; omega)); (focus first | exact .inl (Nat.zero_le _) | omega); (focus first | (intro v hv; simp at hv; subst hv; rfl) | (simp [Value.oneCell']; done) | (simp [Value.oneCell', strV]; done) | (simp [Value.cells, Value.oneCell', strV]; done)))
    | (refine W_storeM (A := [_, _]) hp rfl sz44 rfl rfl rfl rfl ?_ ?_ ?_ rfl ?_; (focus first | exact Nat.le_of_ble_eq_true rfl | omega | (simp; omega)); (focus first | exact .inl (Nat.zero_le _) | omega); (focus first | (intro v hv; simp at hv; subst hv; rfl) | (simp [Value.oneCell']; done) | (simp [Value.oneCell', strV]; done) | (simp [Value.cells, Value.oneCell', strV]; done)))
    | (refine W_storeP hp sz44 rfl rfl rfl rfl (by repeat (first | exact Pick.here | apply Pick.cons | apply Pick.app)) ?_ ?_ ?_ rfl ?_; (focus first | exact Nat.le_of_ble_eq_true rfl | omega | (simp; omega)); (focus first | exact .inl (Nat.zero_le _) | omega); (focus first | (intro v hv; simp at hv; subst hv; rfl) | (simp [Value.oneCell']; done) | (simp [Value.oneCell', strV]; done) | (simp [Value.cells, Value.oneCell', strV]; done)))
  clear hp; intro w hp
  simp only [List.nil_append, List.cons_append, List.append_nil, List.take_succ_cons, List.take_zero, List.drop_succ_cons, List.drop_zero, List.take_nil, List.drop_nil, Nat.zero_add, Nat.add_zero, Nat.reduceAdd, Int.reduceToNat, Int.toNat_natCast, Nat.reduceMul, Nat.mul_one, Nat.zero_mul] at hp
  refine W_nil ?_
  refine N_done0 (.inl rfl) rfl ?_
  have hos : OSb 5 (.slice (some ⟨g, 0, none⟩) 0 cs.length) [] [(g, .cells cs.toArray 5)] := by
    have := OS.made (e := 5) (sz := 1) (b := g) (c := cs.length) (k := 0) (cs := cs) (by simp) (Nat.zero_le _) hc2
    simpa [OSb, bytesV] using this
  exact ⟨_, rfl, rfl, _, _, hos, .inr ⟨_, _, _, rfl, by omega⟩, hp.perm (List.Perm.swap _ _ _)⟩

theorem grow_none (w0 : World) (b : Nat) (G : Heap) (w : World) (hp : Hp w0 [] ((b, .cells [.pointer none, .slice none 0 0].toArray 52) :: G) w) :
    Calls Tryd.prog 36 [.pointer (some ⟨b, 0, none⟩), .int .i64 ((0 : Nat) : Int)].toArray w fun e w' => ∃ u, e = .returned u ∧ u = .tuple #[] ∧ Hp w0 [] ((b, .cells [.pointer (some ⟨b, 0, none⟩), .slice none 0 0].toArray 52) :: G) w' := by
  refine calls_of_K Tryd.func36 rfl rfl ?_
  refine K_seq ?_
  refine K_region ?_
  refine W_move rfl rfl ?_
  refine W_call rfl rfl rfl (CallV.static go43 (copyCheck_spec w0 b _ _ (.inl rfl) _ w hp)) (fun u w2 hr => ?_)
  obtain ⟨rfl, hp2⟩ := hr
  clear hp; revert hp2; generalize w2 = w; intro hp
  refine W_nil ?_
  refine N_then_k ?_
  refine K_seq ?_
  refine K_seq ?_
  refine K_region ?_
  refine W_move rfl rfl ?_
  first
    | (refine W_lss_t rfl rfl ?_ rfl ?_; (focus (omega)))
    | (refine W_lss_f rfl rfl ?_ rfl ?_; (focus (omega)))
    | (refine W_lss rfl rfl rfl ?_)
  refine W_nil ?_
  refine N_then_k ?_
  first
    | refine K_cond_d rfl (fun hc1 => ?_) (fun hc1 => ?_)
    | refine K_cond_n rfl (fun hc1 => ?_) (fun hc1 => ?_)
    | refine K_cond_nb rfl (fun hc1 => ?_) (fun hc1 => ?_)
    | refine K_cond_t rfl (fun hc1 => ?_) (fun hc1 => ?_)
  · try (exfalso; first | omega | (simp only [Bool.false_eq_true, reduceCtorEq] at hc1; done) | (refine absurd hc1 ?_; with_reducible assumption) | (refine absurd ?_ hc1; with_reducible assumption))
    all_goals (
     fail "not to be reached")
  · try (exfalso; first | omega | (simp only [Bool.false_eq_true, reduceCtorEq] at hc1; done) | (refine absurd hc1 ?_; with_reducible assumption) | (refine absurd ?_ hc1; with_reducible assumption))
    all_goals (
     refine K_skip ?_
     refine N_then_k ?_
     refine K_seq ?_
     refine K_quiet hm hp (by kernel_rfl) ?_
     clear hp
     refine Wq_val (fun w hp => R_move rfl) rfl ?_
     refine Wq_val (fun w hp => R_nilCheck_p rfl) rfl ?_
     refine Wq_val (fun w hp => R_fieldAddr Tryd.underlying52 rfl sz44 rfl) rfl ?_
     refine Wq_val (fun w hp => R_load_s Tryd.underlying44 rfl rfl (by first | exact hp.cellF (by first | exact List.mem_cons_self | exact .tail _ (.head _) | exact .tail _ (.tail _ (.head _)) | exact .tail _ (.tail _ (.tail _ (.head _))) | exact .tail _ (.tail _ (.tail _ (.tail _ (.head _)))) | exact .tail _ (.tail _ (.tail _ (.tail _ (.tail _ (.head _))))) | exact List.mem_append_right _ (.head _) | exact List.mem_append_right _ (.tail _ (.head _)) | exact List.mem_append_right _ (.tail _ (.tail _ (.head _))) | exact .tail _ (List.mem_append_right _ (.head _)) | exact .tail _ (List.mem_append_right _ (.tail _ (.head _))) | assumption | (repeat (first | exact List.mem_cons_self | apply List.mem_append_right | apply List.mem_cons_of_mem))) rfl | exact hp.cellM (by first | exact List.mem_cons_self | exact .tail _ (.head _) | exact .tail _ (.tail _ (.head _)) | exact .tail _ (.tail _ (.tail _ (.head _))) | exact .tail _ (.tail _ (.tail _ (.tail _ (.head _)))) | exact .tail _ (.tail _ (.tail _ (.tail _ (.tail _ (.head _))))) | exact List.mem_append_right _ (.head _) | exact List.mem_append_right _ (.tail _ (.head _)) | exact List.mem_append_right _ (.tail _ (.tail _ (.head _))) | exact .tail _ (List.mem_append_right _ (.head _)) | exact .tail _ (List.mem_append_right _ (.tail _ (.head _))) | assumption | (repeat (first | exact List.mem_cons_self | apply List.mem_append_right | apply List.mem_cons_of_mem))) rfl | exact hp.cell_old0 ‹_› | (refine hp.cell_old0 ?_; assumption) | (apply hp.cellF (by assumption); rfl))) rfl ?_
     refine Wq_val (fun w hp => R_cap_sl Tryd.underlying44 rfl) rfl ?_
     refine Wq_val (fun w hp => R_move rfl) rfl ?_
     refine Wq_val (fun w hp => R_nilCheck_p rfl) rfl ?_
     refine Wq_val (fun w hp => R_fieldAddr Tryd.underlying52 rfl sz44 rfl) rfl ?_
     refine Wq_val (fun w hp => R_load_s Tryd.underlying44 rfl rfl (by first | exact hp.cellF (by first | exact List.mem_cons_self | exact .tail _ (.head _) | exact .tail _ (.tail _ (.head _)) | exact .tail _ (.tail _ (.tail _ (.head _))) | exact .tail _ (.tail _ (.tail _ (.tail _ (.head _)))) | exact .tail _ (.tail _ (.tail _ (.tail _ (.tail _ (.head _))))) | exact List.mem_append_right _ (.head _) | exact List.mem_append_right _ (.tail _ (.head _)) | exact List.mem_append_right _ (.tail _ (.tail _ (.head _))) | exact .tail _ (List.mem_append_right _ (.head _)) | exact .tail _ (List.mem_append_right _ (.tail _ (.head _))) | assumption | (repeat (first | exact List.mem_cons_self | apply List.mem_append_right | apply List.mem_cons_of_mem))) rfl | exact hp.cellM (by first | exact List.mem_cons_self | exact .tail _ (.head _) | exact .tail _ (.tail _ (.head _)) | exact .tail _ (.tail _ (.tail _ (.head _))) | exact .tail _ (.tail _ (.tail _ (.tail _ (.head _)))) | exact .tail _ (.tail _ (.tail _ (.tail _ (.tail _ (.head _))))) | exact List.mem_append_right _ (.head _) | exact List.mem_append_right _ (.tail _ (.head _)) | exact List.mem_append_right _ (.tail _ (.tail _ (.head _))) | exact .tail _ (List.mem_append_right _ (.head _)) | exact .tail _ (List.mem_append_right _ (.tail _ (.head _))) | assumption | (repeat (first | exact List.mem_cons_self | apply List.mem_append_right | apply List.mem_cons_of_mem))) rfl | exact hp.cell_old0 ‹_› | (refine hp.cell_old0 ?_; assumption) | (apply hp.cellF (by assumption); rfl))) rfl ?_
     refine Wq_val (fun w hp => R_len_sl Tryd.underlying44 rfl) rfl ?_
     first
       | (refine Wq_val (fun w hp => R_sub rfl rfl (wr_i64 ?_)) rfl ?_; (focus (omega)))
       | (refine Wq_val (fun w hp => R_sub rfl rfl rfl) rfl ?_)
     refine Wq_val (fun w hp => R_move rfl) rfl ?_
     first
       | (refine Wq_val (fun w hp => R_lss_t rfl rfl ?_) rfl ?_; (focus (omega)))
       | (refine Wq_val (fun w hp => R_lss_f rfl rfl ?_) rfl ?_; (focus (omega)))
       | (refine Wq_val (fun w hp => R_lss rfl rfl) rfl ?_)
     refine Wq_end ?_
     intro w hp
     refine N_then_k ?_
     first
       | refine K_cond_d rfl (fun hc2 => ?_) (fun hc2 => ?_)
       | refine K_cond_n rfl (fun hc2 => ?_) (fun hc2 => ?_)
       | refine K_cond_nb rfl (fun hc2 => ?_) (fun hc2 => ?_)
       | refine K_cond_t rfl (fun hc2 => ?_) (fun hc2 => ?_)
     · try (exfalso; first | omega | (simp only [Bool.false_eq_true, reduceCtorEq] at hc2; done) | (refine absurd hc2 ?_; with_reducible assumption) | (refine absurd ?_ hc2; with_reducible assumption))
       all_goals (
        fail "not to be reached")
     · try (exfalso; first | omega | (simp only [Bool.false_eq_true, reduceCtorEq] at hc2; done) | (refine absurd hc2 ?_; with_reducible assumption) | (refine absurd ?_ hc2; with_reducible assumption))
       all_goals (
        refine K_skip ?_
        refine N_done0 (.inl rfl) rfl ?_
        exact ⟨_, rfl, rfl, hp⟩))

theorem grow_some (w0 : World) (b : Nat) (k : Nat) (h0 : 0 < k) (hk : k ≤ 140737488355328) (G : Heap) (w : World) (hp : Hp w0 [] ((b, .cells [.pointer none, .slice none 0 0].toArray 52) :: G) w) :
    Calls Tryd.prog 36 [.pointer (some ⟨b, 0, none⟩), .int .i64 (k : Int)].toArray w fun e w' => ∃ u, e = .returned u ∧ u = .tuple #[] ∧ ∃ v' Hs', OSb 5 v' [] Hs' ∧ CapOk v' ∧ Hp w0 [] ((b, .cells [.pointer (some ⟨b, 0, none⟩), v'].toArray 52) :: (Hs' ++ G)) w' := by
  refine calls_of_K Tryd.func36 rfl rfl ?_
  refine K_seq ?_
  refine K_region ?_
  refine W_move rfl rfl ?_
  refine W_call rfl rfl rfl (CallV.static go43 (copyCheck_spec w0 b _ _ (.inl rfl) _ w hp)) (fun u w2 hr => ?_)
  obtain ⟨rfl, hp2⟩ := hr
  clear hp; revert hp2; generalize w2 = w; intro hp
  refine W_nil ?_
  refine N_then_k ?_
  refine K_seq ?_
  refine K_seq ?_
  refine K_region ?_
  refine W_move rfl rfl ?_
  first
    | (refine W_lss_t rfl rfl ?_ rfl ?_; (focus (omega)))
    | (refine W_lss_f rfl rfl ?_ rfl ?_; (focus (omega)))
    | (refine W_lss rfl rfl rfl ?_)
  refine W_nil ?_
  refine N_then_k ?_
  first
    | refine K_cond_d rfl (fun hc1 => ?_) (fun hc1 => ?_)
    | refine K_cond_n rfl (fun hc1 => ?_) (fun hc1 => ?_)
    | refine K_cond_nb rfl (fun hc1 => ?_) (fun hc1 => ?_)
    | refine K_cond_t rfl (fun hc1 => ?_) (fun hc1 => ?_)
  · try (exfalso; first | omega | (simp only [Bool.false_eq_true, reduceCtorEq] at hc1; done) | (refine absurd hc1 ?_; with_reducible assumption) | (refine absurd ?_ hc1; with_reducible assumption))
    all_goals (
     fail "not to be reached")
  · try (exfalso; first | omega | (simp only [Bool.false_eq_true, reduceCtorEq] at hc1; done) | (refine absurd hc1 ?_; with_reducible assumption) | (refine absurd ?_ hc1; with_reducible assumption))
    all_goals (
     refine K_skip ?_
     refine N_then_k ?_
     refine K_seq ?_
     refine K_quiet hm hp (by kernel_rfl) ?_
     clear hp
     refine Wq_val (fun w hp => R_move rfl) rfl ?_
     refine Wq_val (fun w hp => R_nilCheck_p rfl) rfl ?_
     refine Wq_val (fun w hp => R_fieldAddr Tryd.underlying52 rfl sz44 rfl) rfl ?_
     refine Wq_val (fun w hp => R_load_s Tryd.underlying44 rfl rfl (by first | exact hp.cellF (by first | exact List.mem_cons_self | exact .tail _ (.head _) | exact .tail _ (.tail _ (.head _)) | exact .tail _ (.tail _ (.tail _ (.head _))) | exact .tail _ (.tail _ (.tail _ (.tail _ (.head _)))) | exact .tail _ (.tail _ (.tail _ (.tail _ (.tail _ (.head _))))) | exact List.mem_append_right _ (.head _) | exact List.mem_append_right _ (.tail _ (.head _)) | exact List.mem_append_right _ (.tail _ (.tail _ (.head _))) | exact .tail _ (List.mem_append_right _ (.head _)) | exact .tail _ (List.mem_append_right _ (.tail _ (.head _))) | assumption | (repeat (first | exact List.mem_cons_self | apply List.mem_append_right | apply List.mem_cons_of_mem))) rfl | exact hp.cellM (by first | exact List.mem_cons_self | exact .tail _ (.head _) | exact .tail _ (.tail _ (.head _)) | exact .tail _ (.tail _ (.tail _ (.head _))) | exact .tail _ (.tail _ (.tail _ (.tail _ (.head _)))) | exact .tail _ (.tail _ (.tail _ (.tail _ (.tail _ (.head _))))) | exact List.mem_append_right _ (.head _) | exact List.mem_append_right _ (.tail _ (.head _)) | exact List.mem_append_right _ (.tail _ (.tail _ (.head _))) | exact .tail _ (List.mem_append_right _ (.head _)) | exact .tail _ (List.mem_append_right _ (.tail _ (.head _))) | assumption | (repeat (first | exact List.mem_cons_self | apply List.mem_append_right | apply List.mem_cons_of_mem))) rfl | exact hp.cell_old0 ‹_› | (refine hp.cell_old0 ?_; assumption) | (apply hp.cellF (by assumption); rfl))) rfl ?_
     refine Wq_val (fun w hp => R_cap_sl Tryd.underlying44 rfl) rfl ?_
     refine Wq_val (fun w hp => R_move rfl) rfl ?_
     refine Wq_val (fun w hp => R_nilCheck_p rfl) rfl ?_
     refine Wq_val (fun w hp => R_fieldAddr Tryd.underlying52 rfl sz44 rfl) rfl ?_
     refine Wq_val (fun w hp => R_load_s Tryd.underlying44 rfl rfl (by first | exact hp.cellF (by first | exact List.mem_cons_self | exact .tail _ (.head _) | exact .tail _ (.tail _ (.head _)) | exact .tail _ (.tail _ (.tail _ (.head _))) | exact .tail _ (.tail _ (.tail _ (.tail _ (.head _)))) | exact .tail _ (.tail _ (.tail _ (.tail _ (.tail _ (.head _))))) | exact List.mem_append_right _ (.head _) | exact List.mem_append_right _ (.tail _ (.head _)) | exact List.mem_append_right _ (.tail _ (.tail _ (.head _))) | exact .tail _ (List.mem_append_right _ (.head _)) | exact .tail _ (List.mem_append_right _ (.tail _ (.head _))) | assumption | (repeat (first | exact List.mem_cons_self | apply List.mem_append_right | apply List.mem_cons_of_mem))) rfl | exact hp.cellM (by first | exact List.mem_cons_self | exact .tail _ (.head _) | exact .tail _ (.tail _ (.head _)) | exact .tail _ (.tail _ (.tail _ (.head _))) | exact .tail _ (.tail _ (.tail _ (.tail _ (.head _)))) | exact .tail _ (.tail _ (.tail _ (.tail _ (.tail _ (.head _))))) | exact List.mem_append_right _ (.head _) | exact List.mem_append_right _ (.tail _ (.head _)) | exact List.mem_append_right _ (.tail _ (.tail _ (.head _))) | exact .tail _ (List.mem_append_right _ (.head _)) | exact .tail _ (List.mem_append_right _ (.tail _ (.head _))) | assumption | (repeat (first | exact List.mem_cons_self | apply List.mem_append_right | apply List.mem_cons_of_mem))) rfl | exact hp.cell_old0 ‹_› | (refine hp.cell_old0 ?_; assumption) | (apply hp.cellF (by assumption); rfl))) rfl ?_
     refine Wq_val (fun w hp => R_len_sl Tryd.underlying44 rfl) rfl ?_
     first
       | (refine Wq_val (fun w hp => R_sub rfl rfl (wr_i64 ?_)) rfl ?_; (focus (omega)))
       | (refine Wq_val (fun w hp => R_sub rfl rfl rfl) rfl ?_)
     refine Wq_val (fun w hp => R_move rfl) rfl ?_
     first
       | (refine Wq_val (fun w hp => R_lss_t rfl rfl ?_) rfl ?_; (focus (omega)))
       | (refine Wq_val (fun w hp => R_lss_f rfl rfl ?_) rfl ?_; (focus (omega)))
       | (refine Wq_val (fun w hp => R_lss rfl rfl) rfl ?_)
     refine Wq_end ?_
     intro w hp
     refine N_then_k ?_
     first
       | refine K_cond_d rfl (fun hc2 => ?_) (fun hc2 => ?_)
       | refine K_cond_n rfl (fun hc2 => ?_) (fun hc2 => ?_)
       | refine K_cond_nb rfl (fun hc2 => ?_) (fun hc2 => ?_)
       | refine K_cond_t rfl (fun hc2 => ?_) (fun hc2 => ?_)
     · try (exfalso; first | omega | (simp only [Bool.false_eq_true, reduceCtorEq] at hc2; done) | (refine absurd hc2 ?_; with_reducible assumption) | (refine absurd ?_ hc2; with_reducible assumption))
       all_goals (
        refine K_region ?_
        refine W_move rfl rfl ?_
        refine W_move rfl rfl ?_
        refine W_call rfl rfl rfl (CallV.static go44 (growIn_spec w0 b k h0 hk G w hp)) (fun u w2 hr => ?_)
        obtain ⟨rfl, v', Hs', ho, hc, hp2⟩ := hr
        clear hp; revert hp2; generalize w2 = w; intro hp
        refine W_nil ?_
        refine N_done0 (.inl rfl) rfl ?_
        exact ⟨_, rfl, rfl, _, _, ho, hc, hp⟩)
     · try (exfalso; first | omega | (simp only [Bool.false_eq_true, reduceCtorEq] at hc2; done) | (refine absurd hc2 ?_; with_reducible assumption) | (refine absurd ?_ hc2; with_reducible assumption))
       all_goals (
        refine K_skip ?_
        refine N_done0 (.inl rfl) rfl ?_
        exact ⟨_, rfl, rfl, _, _, ho, hc, hp⟩))

theorem string_ok (w0 : World) (b : Nat) (p v : Value) (a : List UInt8) (ha : a ≠ []) (Hs G : Heap) (w : World) (hos : OSb 5 v a Hs) (hp : Hp w0 [] ((b, .cells [p, v].toArray 52) :: (Hs ++ G)) w) :
    Calls Tryd.prog 38 [.pointer (some ⟨b, 0, none⟩)].toArray w fun e w' => ∃ u, e = .returned u ∧ u = .string ⟨a.toArray⟩ ∧ Hp w0 [] G w' := by
  have hal : 0 < a.length := by cases a with | nil => exact absurd rfl ha | cons => simp
  obtain ⟨g, cap, cur, fz, hv, h1, h2, h3, h4, h5, hH⟩ := (show OS _ _ _ _ _ _ from hos).2.resolve_left (fun h => by have := h.2.1; omega)
  subst hv hH
  have hcell : ∀ (j : Nat) x, a[j]? = some x → cur[j]? = some (.int .u8 (x.toNat : Int)) := fun j x hj => by
    have := bytesV_at hj
    rw [← h4, List.getElem?_take_of_lt (by have := (List.getElem?_eq_some_iff.1 hj).1; omega)] at this
    exact this
  refine calls_of_K Tryd.func38 rfl rfl ?_
  refine K_seq ?_
  refine K_region ?_
  refine W_assign rfl rfl ?_
  refine W_nil ?_
  refine N_then_k ?_
  refine K_seq ?_
  refine K_quiet_tail (A := [_, _, _, _, _, _, _, _, _, _]) (C := Hp _ _ _) hm hp hp.drew (by kernel_rfl) ?_
  clear hp
  refine Wq_val (fun w hp => R_move rfl) rfl ?_
  refine Wq_val (fun w hp => R_nilCheck_p rfl) rfl ?_
  refine Wq_val (fun w hp => R_fieldAddr Tryd.underlying52 rfl sz44 rfl) rfl ?_
  refine Wq_val (fun w hp => R_load_s Tryd.underlying44 rfl rfl (by first | exact hp.cellF (by first | exact List.mem_cons_self | exact .tail _ (.head _) | exact .tail _ (.tail _ (.head _)) | exact .tail _ (.tail _ (.tail _ (.head _))) | exact .tail _ (.tail _ (.tail _ (.tail _ (.head _)))) | exact .tail _ (.tail _ (.tail _ (.tail _ (.tail _ (.head _))))) | exact List.mem_append_right _ (.head _) | exact List.mem_append_right _ (.tail _ (.head _)) | exact List.mem_append_right _ (.tail _ (.tail _ (.head _))) | exact .tail _ (List.mem_append_right _ (.head _)) | exact .tail _ (List.mem_append_right _ (.tail _ (.head _))) | assumption | (repeat (first | exact List.mem_cons_self | apply List.mem_append_right | apply List.mem_cons_of_mem))) rfl | exact hp.cellM (by first | exact List.mem_cons_self | exact .tail _ (.head _) | exact .tail _ (.tail _ (.head _)) | exact .tail _ (.tail _ (.tail _ (.head _))) | exact .tail _ (.tail _ (.tail _ (.tail _ (.head _)))) | exact .tail _ (.tail _ (.tail _ (.tail _ (.tail _ (.head _))))) | exact List.mem_append_right _ (.head _) | exact List.mem_append_right _ (.tail _ (.head _)) | exact List.mem_append_right _ (.tail _ (.tail _ (.head _))) | exact .tail _ (List.mem_append_right _ (.head _)) | exact .tail _ (List.mem_append_right _ (.tail _ (.head _))) | assumption | (repeat (first | exact List.mem_cons_self | apply List.mem_append_right | apply List.mem_cons_of_mem))) rfl | exact hp.cell_old0 ‹_› | (refine hp.cell_old0 ?_; assumption) | (apply hp.cellF (by assumption); rfl))) rfl ?_
  refine Wq_val (fun w hp => R_builtin (v := .pointer (some ⟨g, 0, none⟩)) (xs := [_]) rfl (fun cs => by rw [show builtin .unsafeSliceData _ _ cs _ = (do pure (.value (← Builtin.unsafeSliceData_ _ _ _))) from rfl, Sem.run_bind, Lib.run_unsafeSliceData_row w _ _ _ _ _ (by omega)]; rfl)) rfl ?_
  refine Wq_val (fun w hp => R_move rfl) rfl ?_
  refine Wq_val (fun w hp => R_nilCheck_p rfl) rfl ?_
  refine Wq_val (fun w hp => R_fieldAddr Tryd.underlying52 rfl sz44 rfl) rfl ?_
  refine Wq_val (fun w hp => R_load_s Tryd.underlying44 rfl rfl (by first | exact hp.cellF (by first | exact List.mem_cons_self | exact .tail _ (.head _) | exact .tail _ (.tail _ (.head _)) | exact .tail _ (.tail _ (.tail _ (.head _))) | exact .tail _ (.tail _ (.tail _ (.tail _ (.head _)))) | exact .tail _ (.tail _ (.tail _ (.tail _ (.tail _ (.head _))))) | exact List.mem_append_right _ (.head _) | exact List.mem_append_right _ (.tail _ (.head _)) | exact List.mem_append_right _ (.tail _ (.tail _ (.head _))) | exact .tail _ (List.mem_append_right _ (.head _)) | exact .tail _ (List.mem_append_right _ (.tail _ (.head _))) | assumption | (repeat (first | exact List.mem_cons_self | apply List.mem_append_right | apply List.mem_cons_of_mem))) rfl | exact hp.cellM (by first | exact List.mem_cons_self | exact .tail _ (.head _) | exact .tail _ (.tail _ (.head _)) | exact .tail _ (.tail _ (.tail _ (.head _))) | exact .tail _ (.tail _ (.tail _ (.tail _ (.head _)))) | exact .tail _ (.tail _ (.tail _ (.tail _ (.tail _ (.head _))))) | exact List.mem_append_right _ (.head _) | exact List.mem_append_right _ (.tail _ (.head _)) | exact List.mem_append_right _ (.tail _ (.tail _ (.head _))) | exact .tail _ (List.mem_append_right _ (.head _)) | exact .tail _ (List.mem_append_right _ (.tail _ (.head _))) | assumption | (repeat (first | exact List.mem_cons_self | apply List.mem_append_right | apply List.mem_cons_of_mem))) rfl | exact hp.cell_old0 ‹_› | (refine hp.cell_old0 ?_; assumption) | (apply hp.cellF (by assumption); rfl))) rfl ?_
  refine Wq_val (fun w hp => R_len_sl Tryd.underlying44 rfl) rfl ?_
  refine Wq_tail ?_
  intro w hp
  refine W_builtin (v := .string ⟨a.toArray⟩) (xs := [_, _]) rfl (fun cs => by rw [show builtin .unsafeString _ _ cs _ = (do pure (.value (← Builtin.unsafeString_ _ _ _))) from rfl, Sem.run_bind, Lib.run_unsafeString_row w 61 3 _ 5 Tryd.underlying61 (by kernel_rfl) g cur.length (hp.shapeF (List.mem_cons_of_mem _ List.mem_cons_self)) a ha (by omega) (by unfold maxLen at h2; omega) (fun j x hj => by rw [Addr.add_lit, Nat.zero_add]; exact hp.cellF (List.mem_cons_of_mem _ List.mem_cons_self) (hcell j x hj))]; rfl) rfl ?_
  obtain ⟨fz', hp⟩ := Hp.freeze (A := [_]) (o := 0) (k := a.length) hp
  revert hp; generalize w.freeze _ _ = w; intro hp
  refine W_assign rfl rfl ?_
  refine W_nil ?_
  refine N_then_k ?_
  refine K_ret ?_
  refine N_done1 (.inr rfl) rfl rfl ?_
  exact ⟨_, rfl, rfl, hp.drop (by simp)⟩

theorem string_nil (w0 : World) (b : Nat) (p : Value) (G : Heap) (w : World) (hp : Hp w0 [] ((b, .cells [p, .slice none 0 0].toArray 52) :: G) w) :
    Calls Tryd.prog 38 [.pointer (some ⟨b, 0, none⟩)].toArray w fun e w' => ∃ u, e = .returned u ∧ u = .string ⟨#[]⟩ ∧ Hp w0 [] G w' := by
  refine calls_of_K Tryd.func38 rfl rfl ?_
  refine K_seq ?_
  refine K_region ?_
  refine W_assign rfl rfl ?_
  refine W_nil ?_
  refine N_then_k ?_
  refine K_seq ?_
  refine K_quiet_tail (A := [_, _, _, _, _, _, _, _, _, _]) (C := Hp _ _ _) hm hp hp.drew (by kernel_rfl) ?_
  clear hp
  refine Wq_val (fun w hp => R_move rfl) rfl ?_
  refine Wq_val (fun w hp => R_nilCheck_p rfl) rfl ?_
  refine Wq_val (fun w hp => R_fieldAddr Tryd.underlying52 rfl sz44 rfl) rfl ?_
  refine Wq_val (fun w hp => R_load_s Tryd.underlying44 rfl rfl (by first | exact hp.cellF (by first | exact List.mem_cons_self | exact .tail _ (.head _) | exact .tail _ (.tail _ (.head _)) | exact .tail _ (.tail _ (.tail _ (.head _))) | exact .tail _ (.tail _ (.tail _ (.tail _ (.head _)))) | exact .tail _ (.tail _ (.tail _ (.tail _ (.tail _ (.head _))))) | exact List.mem_append_right _ (.head _) | exact List.mem_append_right _ (.tail _ (.head _)) | exact List.mem_append_right _ (.tail _ (.tail _ (.head _))) | exact .tail _ (List.mem_append_right _ (.head _)) | exact .tail _ (List.mem_append_right _ (.tail _ (.head _))) | assumption | (repeat (first | exact List.mem_cons_self | apply List.mem_append_right | apply List.mem_cons_of_mem))) rfl | exact hp.cellM (by first | exact List.mem_cons_self | exact .tail _ (.head _) | exact .tail _ (.tail _ (.head _)) | exact .tail _ (.tail _ (.tail _ (.head _))) | exact .tail _ (.tail _ (.tail _ (.tail _ (.head _)))) | exact .tail _ (.tail _ (.tail _ (.tail _ (.tail _ (.head _))))) | exact List.mem_append_right _ (.head _) | exact List.mem_append_right _ (.tail _ (.head _)) | exact List.mem_append_right _ (.tail _ (.tail _ (.head _))) | exact .tail _ (List.mem_append_right _ (.head _)) | exact .tail _ (List.mem_append_right _ (.tail _ (.head _))) | assumption | (repeat (first | exact List.mem_cons_self | apply List.mem_append_right | apply List.mem_cons_of_mem))) rfl | exact hp.cell_old0 ‹_› | (refine hp.cell_old0 ?_; assumption) | (apply hp.cellF (by assumption); rfl))) rfl ?_
  refine Wq_val (fun w hp => R_builtin (v := .pointer none) (xs := [_]) rfl (fun cs => rfl)) rfl ?_
  refine Wq_val (fun w hp => R_move rfl) rfl ?_
  refine Wq_val (fun w hp => R_nilCheck_p rfl) rfl ?_
  refine Wq_val (fun w hp => R_fieldAddr Tryd.underlying52 rfl sz44 rfl) rfl ?_
  refine Wq_val (fun w hp => R_load_s Tryd.underlying44 rfl rfl (by first | exact hp.cellF (by first | exact List.mem_cons_self | exact .tail _ (.head _) | exact .tail _ (.tail _ (.head _)) | exact .tail _ (.tail _ (.tail _ (.head _))) | exact .tail _ (.tail _ (.tail _ (.tail _ (.head _)))) | exact .tail _ (.tail _ (.tail _ (.tail _ (.tail _ (.head _))))) | exact List.mem_append_right _ (.head _) | exact List.mem_append_right _ (.tail _ (.head _)) | exact List.mem_append_right _ (.tail _ (.tail _ (.head _))) | exact .tail _ (List.mem_append_right _ (.head _)) | exact .tail _ (List.mem_append_right _ (.tail _ (.head _))) | assumption | (repeat (first | exact List.mem_cons_self | apply List.mem_append_right | apply List.mem_cons_of_mem))) rfl | exact hp.cellM (by first | exact List.mem_cons_self | exact .tail _ (.head _) | exact .tail _ (.tail _ (.head _)) | exact .tail _ (.tail _ (.tail _ (.head _))) | exact .tail _ (.tail _ (.tail _ (.tail _ (.head _)))) | exact .tail _ (.tail _ (.tail _ (.tail _ (.tail _ (.head _))))) | exact List.mem_append_right _ (.head _) | exact List.mem_append_right _ (.tail _ (.head _)) | exact List.mem_append_right _ (.tail _ (.tail _ (.head _))) | exact .tail _ (List.mem_append_right _ (.head _)) | exact .tail _ (List.mem_append_right _ (.tail _ (.head _))) | assumption | (repeat (first | exact List.mem_cons_self | apply List.mem_append_right | apply List.mem_cons_of_mem))) rfl | exact hp.cell_old0 ‹_› | (refine hp.cell_old0 ?_; assumption) | (apply hp.cellF (by assumption); rfl))) rfl ?_
  refine Wq_val (fun w hp => R_len_sl Tryd.underlying44 rfl) rfl ?_
  refine Wq_tail ?_
  intro w hp
  refine W_val rfl (inb_of rfl) (R_builtin (v := .string ⟨#[]⟩) (xs := [_, _]) rfl (fun cs => by rw [show builtin .unsafeString _ _ cs _ = (do pure (.value (← Builtin.unsafeString_ _ _ _))) from rfl, Sem.run_bind, show Value.int IntKind.i64 ((0 : Nat) : Int) = Value.int IntKind.i64 0 from rfl, Lib.run_unsafeString_none w]; rfl)) ?_
  refine W_assign rfl rfl ?_
  refine W_nil ?_
  refine N_then_k ?_
  refine K_ret ?_
  refine N_done1 (.inr rfl) rfl rfl ?_
  exact ⟨_, rfl, rfl, hp.drop (List.sublist_cons_self _ _)⟩

theorem string_zero (w0 : World) (b : Nat) (p : Value) (g c : Nat) (hc : c ≠ 0) (G : Heap) (w : World) (hp : Hp w0 [] ((b, .cells [p, .slice (some ⟨g, 0, none⟩) 0 c].toArray 52) :: G) w) :
    Calls Tryd.prog 38 [.pointer (some ⟨b, 0, none⟩)].toArray w fun e w' => ∃ u, e = .returned u ∧ u = .string ⟨#[]⟩ ∧ Hp w0 [] G w' := by
  refine calls_of_K Tryd.func38 rfl rfl ?_
  refine K_seq ?_
  refine K_region ?_
  refine W_assign rfl rfl ?_
  refine W_nil ?_
  refine N_then_k ?_
  refine K_seq ?_
  refine K_quiet_tail (A := [_, _, _, _, _, _, _, _, _, _]) (C := Hp _ _ _) hm hp hp.drew (by kernel_rfl) ?_
  clear hp
  refine Wq_val (fun w hp => R_move rfl) rfl ?_
  refine Wq_val (fun w hp => R_nilCheck_p rfl) rfl ?_
  refine Wq_val (fun w hp => R_fieldAddr Tryd.underlying52 rfl sz44 rfl) rfl ?_
  refine Wq_val (fun w hp => R_load_s Tryd.underlying44 rfl rfl (by first | exact hp.cellF (by first | exact List.mem_cons_self | exact .tail _ (.head _) | exact .tail _ (.tail _ (.head _)) | exact .tail _ (.tail _ (.tail _ (.head _))) | exact .tail _ (.tail _ (.tail _ (.tail _ (.head _)))) | exact .tail _ (.tail _ (.tail _ (.tail _ (.tail _ (.head _))))) | exact List.mem_append_right _ (.head _) | exact List.mem_append_right _ (.tail _ (.head _)) | exact List.mem_append_right _ (.tail _ (.tail _ (.head _))) | exact .tail _ (List.mem_append_right _ (.head _)) | exact .tail _ (List.mem_append_right _ (.tail _ (.head _))) | assumption | (repeat (first | exact List.mem_cons_self | apply List.mem_append_right | apply List.mem_cons_of_mem))) rfl | exact hp.cellM (by first | exact List.mem_cons_self | exact .tail _ (.head _) | exact .tail _ (.tail _ (.head _)) | exact .tail _ (.tail _ (.tail _ (.head _))) | exact .tail _ (.tail _ (.tail _ (.tail _ (.head _)))) | exact .tail _ (.tail _ (.tail _ (.tail _ (.tail _ (.head _))))) | exact List.mem_append_right _ (.head _) | exact List.mem_append_right _ (.tail _ (.head _)) | exact List.mem_append_right _ (.tail _ (.tail _ (.head _))) | exact .tail _ (List.mem_append_right _ (.head _)) | exact .tail _ (List.mem_append_right _ (.tail _ (.head _))) | assumption | (repeat (first | exact List.mem_cons_self | apply List.mem_append_right | apply List.mem_cons_of_mem))) rfl | exact hp.cell_old0 ‹_› | (refine hp.cell_old0 ?_; assumption) | (apply hp.cellF (by assumption); rfl))) rfl ?_
  refine Wq_val (fun w hp => R_builtin (v := .pointer (some ⟨g, 0, none⟩)) (xs := [_]) rfl (fun cs => by rw [show builtin .unsafeSliceData _ _ cs _ = (do pure (.value (← Builtin.unsafeSliceData_ _ _ _))) from rfl, Sem.run_bind, Lib.run_unsafeSliceData_row w _ _ _ _ _ hc]; rfl)) rfl ?_
  refine Wq_val (fun w hp => R_move rfl) rfl ?_
  refine Wq_val (fun w hp => R_nilCheck_p rfl) rfl ?_
  refine Wq_val (fun w hp => R_fieldAddr Tryd.underlying52 rfl sz44 rfl) rfl ?_
  refine Wq_val (fun w hp => R_load_s Tryd.underlying44 rfl rfl (by first | exact hp.cellF (by first | exact List.mem_cons_self | exact .tail _ (.head _) | exact .tail _ (.tail _ (.head _)) | exact .tail _ (.tail _ (.tail _ (.head _))) | exact .tail _ (.tail _ (.tail _ (.tail _ (.head _)))) | exact .tail _ (.tail _ (.tail _ (.tail _ (.tail _ (.head _))))) | exact List.mem_append_right _ (.head _) | exact List.mem_append_right _ (.tail _ (.head _)) | exact List.mem_append_right _ (.tail _ (.tail _ (.head _))) | exact .tail _ (List.mem_append_right _ (.head _)) | exact .tail _ (List.mem_append_right _ (.tail _ (.head _))) | assumption | (repeat (first | exact List.mem_cons_self | apply List.mem_append_right | apply List.mem_cons_of_mem))) rfl | exact hp.cellM (by first | exact List.mem_cons_self | exact .tail _ (.head _) | exact .tail _ (.tail _ (.head _)) | exact .tail _ (.tail _ (.tail _ (.head _))) | exact .tail _ (.tail _ (.tail _ (.tail _ (.head _)))) | exact .tail _ (.tail _ (.tail _ (.tail _ (.tail _ (.head _))))) | exact List.mem_append_right _ (.head _) | exact List.mem_append_right _ (.tail _ (.head _)) | exact List.mem_append_right _ (.tail _ (.tail _ (.head _))) | exact .tail _ (List.mem_append_right _ (.head _)) | exact .tail _ (List.mem_append_right _ (.tail _ (.head _))) | assumption | (repeat (first | exact List.mem_cons_self | apply List.mem_append_right | apply List.mem_cons_of_mem))) rfl | exact hp.cell_old0 ‹_› | (refine hp.cell_old0 ?_; assumption) | (apply hp.cellF (by assumption); rfl))) rfl ?_
  refine Wq_val (fun w hp => R_len_sl Tryd.underlying44 rfl) rfl ?_
  refine Wq_tail ?_
  intro w hp
  refine W_val rfl (inb_of rfl) (R_builtin (v := .string ⟨#[]⟩) (xs := [_, _]) rfl (fun cs => by rw [show builtin .unsafeString _ _ cs _ = (do pure (.value (← Builtin.unsafeString_ _ _ _))) from rfl, Sem.run_bind, show Value.int IntKind.i64 ((0 : Nat) : Int) = Value.int IntKind.i64 0 from rfl, Lib.run_unsafeString_none w]; rfl)) ?_
  refine W_assign rfl rfl ?_
  refine W_nil ?_
  refine N_then_k ?_
  refine K_ret ?_
  refine N_done1 (.inr rfl) rfl rfl ?_
  exact ⟨_, rfl, rfl, hp.drop (List.sublist_cons_self _ _)⟩

/-- The builder at block b holds the bytes a; H are its blocks. -/
def BH (b : Nat) (a : List UInt8) (H : Heap) : Prop := ∃ p v Hs, H = (b, .cells [p, v].toArray 52) :: Hs ∧ (p = .pointer none ∨ p = .pointer (some ⟨b, 0, none⟩)) ∧ OSb 5 v a Hs ∧ CapOk v
theorem BH.new (b : Nat) : BH b [] [(b, .cells [.pointer none, .slice none 0 0].toArray 52)] := ⟨_, _, _, rfl, .inl rfl, OSb.nil, .inl rfl⟩

theorem bwrites (w0 : World) (b : Nat) (a s : List UInt8) (hl : a.length + s.length ≤ 100000000) (H G : Heap) (w : World) (hb : BH b a H) (hp : Hp w0 [] (H ++ G) w) :
    Calls Tryd.prog 37 [.pointer (some ⟨b, 0, none⟩), .string ⟨s.toArray⟩].toArray w fun e w' => ∃ u, e = .returned u ∧ u = .tuple #[.int .i64 s.length, .nilIface] ∧ ∃ H', BH b (a ++ s) H' ∧ Hp w0 [] (H' ++ G) w' := by
  obtain ⟨p, v, Hs, rfl, hpp, hos, hc⟩ := hb
  by_cases hs : s = []
  · subst hs
    refine (writeString_none w0 b p v hpp a Hs G w hos hp).mono ?_
    rintro e w' ⟨u, rfl, rfl, hp'⟩
    exact ⟨_, rfl, rfl, _, ⟨_, _, _, rfl, .inr rfl, by simpa using hos, hc⟩, hp'⟩
  · refine (writeString_spec w0 b p v hpp a s hl Hs G w hos hp).mono ?_
    rintro e w' ⟨u, rfl, rfl, v', Hs', ho, hp'⟩
    exact ⟨_, rfl, rfl, _, ⟨_, _, _, rfl, .inr rfl, ho, ho.capOk (by simp [hs])⟩, hp'⟩

theorem bgrow (w0 : World) (b k : Nat) (hk : k ≤ 140737488355328) (G : Heap) (w : World) (hp : Hp w0 [] ((b, .cells [.pointer none, .slice none 0 0].toArray 52) :: G) w) :
    Calls Tryd.prog 36 [.pointer (some ⟨b, 0, none⟩), .int .i64 (k : Int)].toArray w fun e w' => ∃ u, e = .returned u ∧ u = .tuple #[] ∧ ∃ H', BH b [] H' ∧ Hp w0 [] (H' ++ G) w' := by
  rcases Nat.eq_zero_or_pos k with rfl | h0
  · refine (grow_none w0 b G w hp).mono ?_
    rintro e w' ⟨u, rfl, rfl, hp'⟩
    exact ⟨_, rfl, rfl, _, ⟨_, _, _, rfl, .inr rfl, OSb.nil, .inl rfl⟩, hp'⟩
  · refine (grow_some w0 b k h0 hk G w hp).mono ?_
    rintro e w' ⟨u, rfl, rfl, v', Hs', ho, hc, hp'⟩
    exact ⟨_, rfl, rfl, _, ⟨_, _, _, rfl, .inr rfl, ho, hc⟩, hp'⟩

theorem bstring (w0 : World) (b : Nat) (a : List UInt8) (H G : Heap) (w : World) (hb : BH b a H) (hp : Hp w0 [] (H ++ G) w) :
    Calls Tryd.prog 38 [.pointer (some ⟨b, 0, none⟩)].toArray w fun e w' => ∃ u, e = .returned u ∧ u = .string ⟨a.toArray⟩ ∧ Hp w0 [] G w' := by
  obtain ⟨p, v, Hs, rfl, hpp, hos, hn⟩ := hb
  by_cases ha : a = []
  · subst ha
    rcases hn with rfl | ⟨g, m, c, rfl, hc⟩
    · exact (string_nil w0 b p (Hs ++ G) w (by simpa using hp)).mono (fun e w' ⟨u, h1, h2, hp'⟩ => ⟨u, h1, h2, hp'.drop (List.sublist_append_right _ _)⟩)
    · obtain ⟨A', c', e⟩ := hos.form
      cases e
      exact (string_zero w0 b p g c hc (Hs ++ G) w (by simpa using hp)).mono (fun e w' ⟨u, h1, h2, hp'⟩ => ⟨u, h1, h2, hp'.drop (List.sublist_append_right _ _)⟩)
  · exact string_ok w0 b p v a ha Hs G w hos (by simpa using hp)

end Go.Proofs.YtjmfjdmpbkdceaaDoor
