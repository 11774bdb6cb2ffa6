/-
  strings.Builder at this program.
-/
import Derived.Test.YtgnnnlblkdfecaaDoorSxT
import Derived.Test.YtgnnnlblkdfecaaDoorSxRow
namespace Go.Proofs.YtgnnnlblkdfecaaDoor
open Go.Sx Go.RowKit
set_option linter.unusedVariables false
set_option linter.unusedSimpArgs false
set_option maxRecDepth 100000

/-! ### strings.Builder -/
theorem xNoEscape : ExtFn Tryd.prog 30 Go.Extern.AbiNoEscape.same := ⟨Tryd.f30, Tryd.func30, by kernel_rfl, by kernel_rfl, by kernel_rfl, by kernel_rfl⟩
theorem bEqNone (b : Nat) (w : World) : (do eqGuard .eql 38 (.tmp 5) (.const (.pointer none)) (.pointer (some ⟨b, 0, none⟩)) (.pointer none); binOp .eql 38 (.pointer (some ⟨b, 0, none⟩)) (.pointer none) : Sem Value).run Tryd.prog w = .ok (.bool false) w := by kernel_rfl
theorem bInfo : ∃ j, (Tryd.prog).info? 40 = some j ∧ j.size ≠ 0 := by
  obtain ⟨i, h, hs, _⟩ := info_of sz40 pb40 zv40
  exact ⟨i, h, by rw [hs]; decide⟩
theorem bTo (b : Nat) (w : World) (h : w.shape? b = some (40, 2)) : (convert 38 65 (.pointer (some ⟨b, 0, none⟩))).run Tryd.prog w = .ok (.pointer (some ⟨b, 0, none⟩)) w := by
  obtain ⟨j, hj, hs⟩ := bInfo
  exact Lib.run_to_unsafe w ⟨b, 0, none⟩ Tryd.underlying38 Tryd.underlying65 hj hs h (show (0 : Nat) < 2 by decide)
theorem bFrom (b : Nat) (w : World) (h : w.shape? b = some (40, 2)) : (convert 65 38 (.pointer (some ⟨b, 0, none⟩))).run Tryd.prog w = .ok (.pointer (some ⟨b, 0, none⟩)) w := by
  obtain ⟨j, hj, hs⟩ := bInfo
  exact Lib.run_from_unsafe w ⟨b, 0, none⟩ Tryd.underlying65 Tryd.underlying38 hj h (by kernel_rfl)
theorem bSame (b : Nat) (w : World) (x y : Operand) : (do eqGuard .neq 38 x y (.pointer (some ⟨b, 0, none⟩)) (.pointer (some ⟨b, 0, none⟩)); binOp .neq 38 (.pointer (some ⟨b, 0, none⟩)) (.pointer (some ⟨b, 0, none⟩)) : Sem Value).run Tryd.prog w = .ok (.bool false) w := by
  obtain ⟨j, hj, hs⟩ := bInfo
  have := Lib.run_neq_ptr_same (P := Tryd.prog) w ⟨b, 0, none⟩ Tryd.underlying38 hj
  simp [eqGuard, this]

theorem copyCheck_new (w0 : World) (b : Nat) (v : Value) (G : Heap) (w : World) (hp : Hp w0 [] ((b, .cells [.pointer none, v].toArray 40) :: G) w) :
    Calls Tryd.prog 26 [.pointer (some ⟨b, 0, none⟩)].toArray w fun e w' => ∃ u, e = .returned u ∧ u = .tuple #[] ∧ Hp w0 [] ((b, .cells [.pointer (some ⟨b, 0, none⟩), v].toArray 40) :: G) w' := by
  refine calls_of_K Tryd.func26 rfl rfl ?_
  refine K_seq ?_
  refine K_region ?_
  refine W_move rfl rfl ?_
  refine W_nilCheck_p rfl rfl ?_
  refine W_fieldAddr Tryd.underlying40 rfl sz38 rfl rfl ?_
  refine W_load_s Tryd.underlying38 rfl rfl (by first | exact hp.cellF (by first | exact List.mem_cons_self | exact .tail _ (.head _) | exact .tail _ (.tail _ (.head _)) | exact .tail _ (.tail _ (.tail _ (.head _))) | exact .tail _ (.tail _ (.tail _ (.tail _ (.head _)))) | exact .tail _ (.tail _ (.tail _ (.tail _ (.tail _ (.head _)))))) rfl | exact hp.cellM (by first | exact List.mem_cons_self | exact .tail _ (.head _) | exact .tail _ (.tail _ (.head _)) | exact .tail _ (.tail _ (.tail _ (.head _))) | exact .tail _ (.tail _ (.tail _ (.tail _ (.head _)))) | exact .tail _ (.tail _ (.tail _ (.tail _ (.tail _ (.head _)))))) rfl | exact hp.cell_old0 ‹_› | (refine hp.cell_old0 ?_; assumption)) rfl ?_
  refine W_val rfl (inb_of rfl) (R_bin (v := .bool true) rfl rfl ?_) ?_
  · kernel_rfl
  refine W_nil ?_
  refine N_then_k ?_
  first
    | refine K_cond_d rfl (fun hc1 => ?_) (fun hc1 => ?_)
    | refine K_cond_n rfl (fun hc1 => ?_) (fun hc1 => ?_)
    | refine K_cond_nb rfl (fun hc1 => ?_) (fun hc1 => ?_)
    | refine K_cond_t rfl (fun hc1 => ?_) (fun hc1 => ?_)
  · try (exfalso; first | omega | (simp only [Bool.false_eq_true, reduceCtorEq] at hc1; done) | (refine absurd hc1 ?_; with_reducible assumption) | (refine absurd ?_ hc1; with_reducible assumption))
    all_goals (
     refine K_region ?_
     refine W_move rfl rfl ?_
     refine W_move rfl rfl ?_
     refine W_val rfl (inb_of rfl) (R_convr (v := .pointer (some ⟨b, 0, none⟩)) rfl (bTo b w (hp.shapeF List.mem_cons_self))) ?_
     refine W_val rfl (inb_of rfl) (R_ext (v := .pointer (some ⟨b, 0, none⟩)) xNoEscape (xs := [_]) rfl (Lib.run_noEscape w _)) ?_
     refine W_val rfl (inb_of rfl) (R_convr (v := .pointer (some ⟨b, 0, none⟩)) rfl (bFrom b w (hp.shapeF List.mem_cons_self))) ?_
     refine W_nilCheck_p rfl rfl ?_
     refine W_fieldAddr Tryd.underlying40 rfl sz38 rfl rfl ?_
     first
       | (refine W_storeF (A := []) hp rfl sz38 rfl rfl rfl rfl ?_ ?_ ?_ rfl ?_; (focus first | exact Nat.le_of_ble_eq_true rfl | omega | (simp; omega)); (focus first | exact .inl (Nat.zero_le _) | omega); (focus first | (intro v hv; simp at hv; subst hv; rfl) | (simp [Value.oneCell']; done)))
       | (refine W_storeF (A := [_]) hp rfl sz38 rfl rfl rfl rfl ?_ ?_ ?_ rfl ?_; (focus first | exact Nat.le_of_ble_eq_true rfl | omega | (simp; omega)); (focus first | exact .inl (Nat.zero_le _) | omega); (focus first | (intro v hv; simp at hv; subst hv; rfl) | (simp [Value.oneCell']; done)))
       | (refine W_storeF (A := [_, _]) hp rfl sz38 rfl rfl rfl rfl ?_ ?_ ?_ rfl ?_; (focus first | exact Nat.le_of_ble_eq_true rfl | omega | (simp; omega)); (focus first | exact .inl (Nat.zero_le _) | omega); (focus first | (intro v hv; simp at hv; subst hv; rfl) | (simp [Value.oneCell']; done)))
       | (refine W_storeF (A := [_, _, _]) hp rfl sz38 rfl rfl rfl rfl ?_ ?_ ?_ rfl ?_; (focus first | exact Nat.le_of_ble_eq_true rfl | omega | (simp; omega)); (focus first | exact .inl (Nat.zero_le _) | omega); (focus first | (intro v hv; simp at hv; subst hv; rfl) | (simp [Value.oneCell']; done)))
       | (refine W_storeF (A := [_, _, _, _]) hp rfl sz38 rfl rfl rfl rfl ?_ ?_ ?_ rfl ?_; (focus first | exact Nat.le_of_ble_eq_true rfl | omega | (simp; omega)); (focus first | exact .inl (Nat.zero_le _) | omega); (focus first | (intro v hv; simp at hv; subst hv; rfl) | (simp [Value.oneCell']; done)))
       | (refine W_storeF (A := [_, _, _, _, _]) hp rfl sz38 rfl rfl rfl rfl ?_ ?_ ?_ rfl ?_; (focus first | exact Nat.le_of_ble_eq_true rfl | omega | (simp; omega)); (focus first | exact .inl (Nat.zero_le _) | omega); (focus first | (intro v hv; simp at hv; subst hv; rfl) | (simp [Value.oneCell']; done)))
       | (refine W_storeM (A := []) hp rfl sz38 rfl rfl rfl rfl ?_ ?_ ?_ rfl ?_; (focus first | exact Nat.le_of_ble_eq_true rfl | omega | (simp; omega)); (focus first | exact .inl (Nat.zero_le _) | omega); (focus first | (intro v hv; simp at hv; subst hv; rfl) | (simp [Value.oneCell']; done)))
       | (refine W_storeM (A := [_]) hp rfl sz38 rfl rfl rfl rfl ?_ ?_ ?_ rfl ?_; (focus first | exact Nat.le_of_ble_eq_true rfl | omega | (simp; omega)); (focus first | exact .inl (Nat.zero_le _) | omega); (focus first | (intro v hv; simp at hv; subst hv; rfl) | (simp [Value.oneCell']; done)))
       | (refine W_storeM (A := [_, _]) hp rfl sz38 rfl rfl rfl rfl ?_ ?_ ?_ rfl ?_; (focus first | exact Nat.le_of_ble_eq_true rfl | omega | (simp; omega)); (focus first | exact .inl (Nat.zero_le _) | omega); (focus first | (intro v hv; simp at hv; subst hv; rfl) | (simp [Value.oneCell']; done)))
     clear hp; intro w hp
     simp only [List.nil_append, List.cons_append, List.append_nil, List.take_succ_cons, List.take_zero, List.drop_succ_cons, List.drop_zero, List.take_nil, List.drop_nil, Nat.zero_add, Nat.add_zero, Nat.reduceAdd, Int.reduceToNat, Int.toNat_natCast, Nat.reduceMul, Nat.mul_one, Nat.zero_mul] at hp
     refine W_nil ?_
     refine N_done0 (.inl rfl) rfl ?_
     exact ⟨_, rfl, rfl, hp⟩)
  · try (exfalso; first | omega | (simp only [Bool.false_eq_true, reduceCtorEq] at hc1; done) | (refine absurd hc1 ?_; with_reducible assumption) | (refine absurd ?_ hc1; with_reducible assumption))
    all_goals (
     refine K_seq ?_
     fail "not to be reached")

theorem copyCheck_used (w0 : World) (b : Nat) (v : Value) (G : Heap) (w : World) (hp : Hp w0 [] ((b, .cells [.pointer (some ⟨b, 0, none⟩), v].toArray 40) :: G) w) :
    Calls Tryd.prog 26 [.pointer (some ⟨b, 0, none⟩)].toArray w fun e w' => ∃ u, e = .returned u ∧ u = .tuple #[] ∧ Hp w0 [] ((b, .cells [.pointer (some ⟨b, 0, none⟩), v].toArray 40) :: G) w' := by
  refine calls_of_K Tryd.func26 rfl rfl ?_
  refine K_seq ?_
  refine K_region ?_
  refine W_move rfl rfl ?_
  refine W_nilCheck_p rfl rfl ?_
  refine W_fieldAddr Tryd.underlying40 rfl sz38 rfl rfl ?_
  refine W_load_s Tryd.underlying38 rfl rfl (by first | exact hp.cellF (by first | exact List.mem_cons_self | exact .tail _ (.head _) | exact .tail _ (.tail _ (.head _)) | exact .tail _ (.tail _ (.tail _ (.head _))) | exact .tail _ (.tail _ (.tail _ (.tail _ (.head _)))) | exact .tail _ (.tail _ (.tail _ (.tail _ (.tail _ (.head _)))))) rfl | exact hp.cellM (by first | exact List.mem_cons_self | exact .tail _ (.head _) | exact .tail _ (.tail _ (.head _)) | exact .tail _ (.tail _ (.tail _ (.head _))) | exact .tail _ (.tail _ (.tail _ (.tail _ (.head _)))) | exact .tail _ (.tail _ (.tail _ (.tail _ (.tail _ (.head _)))))) rfl | exact hp.cell_old0 ‹_› | (refine hp.cell_old0 ?_; assumption)) rfl ?_
  refine W_val rfl (inb_of rfl) (R_bin (v := .bool false) rfl rfl ?_) ?_
  · kernel_rfl
  refine W_nil ?_
  refine N_then_k ?_
  first
    | refine K_cond_d rfl (fun hc1 => ?_) (fun hc1 => ?_)
    | refine K_cond_n rfl (fun hc1 => ?_) (fun hc1 => ?_)
    | refine K_cond_nb rfl (fun hc1 => ?_) (fun hc1 => ?_)
    | refine K_cond_t rfl (fun hc1 => ?_) (fun hc1 => ?_)
  · try (exfalso; first | omega | (simp only [Bool.false_eq_true, reduceCtorEq] at hc1; done) | (refine absurd hc1 ?_; with_reducible assumption) | (refine absurd ?_ hc1; with_reducible assumption))
    all_goals (
     fail "not to be reached")
  · try (exfalso; first | omega | (simp only [Bool.false_eq_true, reduceCtorEq] at hc1; done) | (refine absurd hc1 ?_; with_reducible assumption) | (refine absurd ?_ hc1; with_reducible assumption))
    all_goals (
     refine K_seq ?_
     refine K_region ?_
     refine W_move rfl rfl ?_
     refine W_nilCheck_p rfl rfl ?_
     refine W_fieldAddr Tryd.underlying40 rfl sz38 rfl rfl ?_
     refine W_load_s Tryd.underlying38 rfl rfl (by first | exact hp.cellF (by first | exact List.mem_cons_self | exact .tail _ (.head _) | exact .tail _ (.tail _ (.head _)) | exact .tail _ (.tail _ (.tail _ (.head _))) | exact .tail _ (.tail _ (.tail _ (.tail _ (.head _)))) | exact .tail _ (.tail _ (.tail _ (.tail _ (.tail _ (.head _)))))) rfl | exact hp.cellM (by first | exact List.mem_cons_self | exact .tail _ (.head _) | exact .tail _ (.tail _ (.head _)) | exact .tail _ (.tail _ (.tail _ (.head _))) | exact .tail _ (.tail _ (.tail _ (.tail _ (.head _)))) | exact .tail _ (.tail _ (.tail _ (.tail _ (.tail _ (.head _)))))) rfl | exact hp.cell_old0 ‹_› | (refine hp.cell_old0 ?_; assumption)) rfl ?_
     refine W_move rfl rfl ?_
     refine W_val rfl (inb_of rfl) (R_bin (v := .bool false) rfl rfl (bSame b w _ _)) ?_
     refine W_nil ?_
     refine N_then_k ?_
     first
       | refine K_cond_d rfl (fun hc2 => ?_) (fun hc2 => ?_)
       | refine K_cond_n rfl (fun hc2 => ?_) (fun hc2 => ?_)
       | refine K_cond_nb rfl (fun hc2 => ?_) (fun hc2 => ?_)
       | refine K_cond_t rfl (fun hc2 => ?_) (fun hc2 => ?_)
     · try (exfalso; first | omega | (simp only [Bool.false_eq_true, reduceCtorEq] at hc2; done) | (refine absurd hc2 ?_; with_reducible assumption) | (refine absurd ?_ hc2; with_reducible assumption))
       all_goals (
        fail "refused code")
     · try (exfalso; first | omega | (simp only [Bool.false_eq_true, reduceCtorEq] at hc2; done) | (refine absurd hc2 ?_; with_reducible assumption) | (refine absurd ?_ hc2; with_reducible assumption))
       all_goals (
        refine K_skip ?_
        refine N_done0 (.inl rfl) rfl ?_
        exact ⟨_, rfl, rfl, hp⟩))

theorem copyCheck_spec (w0 : World) (b : Nat) (p v : Value) (hpp : p = .pointer none ∨ p = .pointer (some ⟨b, 0, none⟩)) (G : Heap) (w : World) (hp : Hp w0 [] ((b, .cells [p, v].toArray 40) :: G) w) :
    Calls Tryd.prog 26 [.pointer (some ⟨b, 0, none⟩)].toArray w fun e w' => ∃ u, e = .returned u ∧ u = .tuple #[] ∧ Hp w0 [] ((b, .cells [.pointer (some ⟨b, 0, none⟩), v].toArray 40) :: G) w' := by
  rcases hpp with rfl | rfl
  · exact copyCheck_new w0 b v G w hp
  · exact copyCheck_used w0 b v G w hp

theorem writeByte_spec (w0 : World) (b : Nat) (p v : Value) (hpp : p = .pointer none ∨ p = .pointer (some ⟨b, 0, none⟩)) (a : List UInt8) (c : UInt8) (hl : a.length ≤ 100000000) (Hs G : Heap) (w : World) (hos : OSb 5 v a Hs) (hp : Hp w0 [] ((b, .cells [p, v].toArray 40) :: (Hs ++ G)) w) :
    Calls Tryd.prog 15 [.pointer (some ⟨b, 0, none⟩), .int .u8 (c.toNat : Int)].toArray w fun e w' => ∃ u, e = .returned u ∧ u = .nilIface ∧ ∃ v' Hs', OSb 5 v' (a ++ [c]) Hs' ∧ Hp w0 [] ((b, .cells [.pointer (some ⟨b, 0, none⟩), v'].toArray 40) :: (Hs' ++ G)) w' := by
  obtain ⟨Av, cv, rfl⟩ := hos.form
  generalize hvv : Value.slice Av a.length cv = v at hos hp
  refine calls_of_K Tryd.func15 rfl rfl ?_
  refine K_seq ?_
  refine K_region ?_
  refine W_assign rfl rfl ?_
  refine W_nil ?_
  refine N_then_k ?_
  refine K_seq ?_
  refine K_region ?_
  refine W_move rfl rfl ?_
  refine W_call rfl rfl rfl (CallV.static go26 (copyCheck_spec w0 b p v hpp _ w hp)) (fun u w2 hr => ?_)
  obtain ⟨rfl, hp2⟩ := hr
  clear hp; revert hp2; generalize w2 = w; intro hp
  refine W_nil ?_
  refine N_then_k ?_
  refine K_seq ?_
  refine K_region ?_
  refine W_move rfl rfl ?_
  refine W_move rfl rfl ?_
  refine W_nilCheck_p rfl rfl ?_
  refine W_fieldAddr Tryd.underlying40 rfl sz22 rfl rfl ?_
  refine W_load_s Tryd.underlying22 rfl rfl (by first | exact hp.cellF (by first | exact List.mem_cons_self | exact .tail _ (.head _) | exact .tail _ (.tail _ (.head _)) | exact .tail _ (.tail _ (.tail _ (.head _))) | exact .tail _ (.tail _ (.tail _ (.tail _ (.head _)))) | exact .tail _ (.tail _ (.tail _ (.tail _ (.tail _ (.head _)))))) rfl | exact hp.cellM (by first | exact List.mem_cons_self | exact .tail _ (.head _) | exact .tail _ (.tail _ (.head _)) | exact .tail _ (.tail _ (.tail _ (.head _))) | exact .tail _ (.tail _ (.tail _ (.tail _ (.head _)))) | exact .tail _ (.tail _ (.tail _ (.tail _ (.tail _ (.head _)))))) rfl | exact hp.cell_old0 ‹_› | (refine hp.cell_old0 ?_; assumption)) rfl ?_
  refine W_move rfl rfl ?_
  refine W_bslice1 hp Tryd.underlying22 sz5 zv5 rfl  rfl  (fun v0 => [v0]) rfl rfl rfl ?_
  clear hp; intro b13 w hp
  refine W_append_sl (A := [_, _]) (B := G) _ rfl hp rfl Tryd.underlying22 sz5 pb5 zv5 rfl rfl rfl rfl hos (Rd.own hp (by first | exact List.mem_cons_self | exact .tail _ (.head _) | exact .tail _ (.tail _ (.head _)) | exact .tail _ (.tail _ (.tail _ (.head _))) | exact .tail _ (.tail _ (.tail _ (.tail _ (.head _)))) | exact .tail _ (.tail _ (.tail _ (.tail _ (.tail _ (.head _)))))) (List.prefix_refl _)) ?_ ?_ ?_ ?_ rfl ?_
  · rfl
  · simp [Value.oneCell']
  · (simp only [maxLen]; omega)
  · omega
  clear hp; intro va14 Hs w hos hp
  replace hos := OSb.snoc (c := c) hos
  obtain ⟨Aa14, ca14, rfl⟩ := hos.form
  refine W_nilCheck_p rfl rfl ?_
  refine W_fieldAddr Tryd.underlying40 rfl sz22 rfl rfl ?_
  first
    | (refine W_storeF (A := []) hp rfl sz22 rfl rfl rfl rfl ?_ ?_ ?_ rfl ?_; (focus first | exact Nat.le_of_ble_eq_true rfl | omega | (simp; omega)); (focus first | exact .inl (Nat.zero_le _) | omega); (focus first | (intro v hv; simp at hv; subst hv; rfl) | (simp [Value.oneCell']; done)))
    | (refine W_storeF (A := [_]) hp rfl sz22 rfl rfl rfl rfl ?_ ?_ ?_ rfl ?_; (focus first | exact Nat.le_of_ble_eq_true rfl | omega | (simp; omega)); (focus first | exact .inl (Nat.zero_le _) | omega); (focus first | (intro v hv; simp at hv; subst hv; rfl) | (simp [Value.oneCell']; done)))
    | (refine W_storeF (A := [_, _]) hp rfl sz22 rfl rfl rfl rfl ?_ ?_ ?_ rfl ?_; (focus first | exact Nat.le_of_ble_eq_true rfl | omega | (simp; omega)); (focus first | exact .inl (Nat.zero_le _) | omega); (focus first | (intro v hv; simp at hv; subst hv; rfl) | (simp [Value.oneCell']; done)))
    | (refine W_storeF (A := [_, _, _]) hp rfl sz22 rfl rfl rfl rfl ?_ ?_ ?_ rfl ?_; (focus first | exact Nat.le_of_ble_eq_true rfl | omega | (simp; omega)); (focus first | exact .inl (Nat.zero_le _) | omega); (focus first | (intro v hv; simp at hv; subst hv; rfl) | (simp [Value.oneCell']; done)))
    | (refine W_storeF (A := [_, _, _, _]) hp rfl sz22 rfl rfl rfl rfl ?_ ?_ ?_ rfl ?_; (focus first | exact Nat.le_of_ble_eq_true rfl | omega | (simp; omega)); (focus first | exact .inl (Nat.zero_le _) | omega); (focus first | (intro v hv; simp at hv; subst hv; rfl) | (simp [Value.oneCell']; done)))
    | (refine W_storeF (A := [_, _, _, _, _]) hp rfl sz22 rfl rfl rfl rfl ?_ ?_ ?_ rfl ?_; (focus first | exact Nat.le_of_ble_eq_true rfl | omega | (simp; omega)); (focus first | exact .inl (Nat.zero_le _) | omega); (focus first | (intro v hv; simp at hv; subst hv; rfl) | (simp [Value.oneCell']; done)))
    | (refine W_storeM (A := []) hp rfl sz22 rfl rfl rfl rfl ?_ ?_ ?_ rfl ?_; (focus first | exact Nat.le_of_ble_eq_true rfl | omega | (simp; omega)); (focus first | exact .inl (Nat.zero_le _) | omega); (focus first | (intro v hv; simp at hv; subst hv; rfl) | (simp [Value.oneCell']; done)))
    | (refine W_storeM (A := [_]) hp rfl sz22 rfl rfl rfl rfl ?_ ?_ ?_ rfl ?_; (focus first | exact Nat.le_of_ble_eq_true rfl | omega | (simp; omega)); (focus first | exact .inl (Nat.zero_le _) | omega); (focus first | (intro v hv; simp at hv; subst hv; rfl) | (simp [Value.oneCell']; done)))
    | (refine W_storeM (A := [_, _]) hp rfl sz22 rfl rfl rfl rfl ?_ ?_ ?_ rfl ?_; (focus first | exact Nat.le_of_ble_eq_true rfl | omega | (simp; omega)); (focus first | exact .inl (Nat.zero_le _) | omega); (focus first | (intro v hv; simp at hv; subst hv; rfl) | (simp [Value.oneCell']; done)))
  clear hp; intro w hp
  simp only [List.nil_append, List.cons_append, List.append_nil, List.take_succ_cons, List.take_zero, List.drop_succ_cons, List.drop_zero, List.take_nil, List.drop_nil, Nat.zero_add, Nat.add_zero, Nat.reduceAdd, Int.reduceToNat, Int.toNat_natCast, Nat.reduceMul, Nat.mul_one, Nat.zero_mul] at hp
  refine W_nil ?_
  refine N_then_k ?_
  refine K_seq ?_
  refine K_region ?_
  refine W_assign rfl rfl ?_
  refine W_nil ?_
  refine N_then_k ?_
  refine K_ret ?_
  refine N_done1 (.inr rfl) rfl rfl ?_
  exact ⟨_, rfl, rfl, _, _, hos, hp.drop (List.sublist_cons_self _ _)⟩

theorem string_ok (w0 : World) (b : Nat) (p v : Value) (a : List UInt8) (ha : a ≠ []) (Hs G : Heap) (w : World) (hos : OSb 5 v a Hs) (hp : Hp w0 [] ((b, .cells [p, v].toArray 40) :: (Hs ++ G)) w) :
    Calls Tryd.prog 16 [.pointer (some ⟨b, 0, none⟩)].toArray w fun e w' => ∃ u, e = .returned u ∧ u = .string ⟨a.toArray⟩ ∧ Hp w0 [] G w' := by
  have hal : 0 < a.length := by cases a with | nil => exact absurd rfl ha | cons => simp
  obtain ⟨g, cap, cur, fz, hv, h1, h2, h3, h4, h5, hH⟩ := (show OS _ _ _ _ _ _ from hos).2.resolve_left (fun h => by have := h.2.1; omega)
  subst hv hH
  have hcell : ∀ (j : Nat) x, a[j]? = some x → cur[j]? = some (.int .u8 (x.toNat : Int)) := fun j x hj => by
    have := bytesV_at hj
    rw [← h4, List.getElem?_take_of_lt (by have := (List.getElem?_eq_some_iff.1 hj).1; omega)] at this
    exact this
  refine calls_of_K Tryd.func16 rfl rfl ?_
  refine K_seq ?_
  refine K_region ?_
  refine W_assign rfl rfl ?_
  refine W_nil ?_
  refine N_then_k ?_
  refine K_seq ?_
  refine K_quiet_tail (A := [_, _, _, _, _, _, _, _, _, _]) (C := Hp _ _ _) hm hp hp.drew (by kernel_rfl) ?_
  clear hp
  refine Wq_val (fun w hp => R_move rfl) rfl ?_
  refine Wq_val (fun w hp => R_nilCheck_p rfl) rfl ?_
  refine Wq_val (fun w hp => R_fieldAddr Tryd.underlying40 rfl sz22 rfl) rfl ?_
  refine Wq_val (fun w hp => R_load_s Tryd.underlying22 rfl rfl (by first | exact hp.cellF (by first | exact List.mem_cons_self | exact .tail _ (.head _) | exact .tail _ (.tail _ (.head _)) | exact .tail _ (.tail _ (.tail _ (.head _))) | exact .tail _ (.tail _ (.tail _ (.tail _ (.head _)))) | exact .tail _ (.tail _ (.tail _ (.tail _ (.tail _ (.head _)))))) rfl | exact hp.cellM (by first | exact List.mem_cons_self | exact .tail _ (.head _) | exact .tail _ (.tail _ (.head _)) | exact .tail _ (.tail _ (.tail _ (.head _))) | exact .tail _ (.tail _ (.tail _ (.tail _ (.head _)))) | exact .tail _ (.tail _ (.tail _ (.tail _ (.tail _ (.head _)))))) rfl | exact hp.cell_old0 ‹_› | (refine hp.cell_old0 ?_; assumption))) rfl ?_
  refine Wq_val (fun w hp => R_builtin (v := .pointer (some ⟨g, 0, none⟩)) (xs := [_]) rfl (fun cs => by rw [show builtin .unsafeSliceData _ _ cs _ = (do pure (.value (← Builtin.unsafeSliceData_ _ _ _))) from rfl, Sem.run_bind, Lib.run_unsafeSliceData_row w _ _ _ _ _ (by omega)]; rfl)) rfl ?_
  refine Wq_val (fun w hp => R_move rfl) rfl ?_
  refine Wq_val (fun w hp => R_nilCheck_p rfl) rfl ?_
  refine Wq_val (fun w hp => R_fieldAddr Tryd.underlying40 rfl sz22 rfl) rfl ?_
  refine Wq_val (fun w hp => R_load_s Tryd.underlying22 rfl rfl (by first | exact hp.cellF (by first | exact List.mem_cons_self | exact .tail _ (.head _) | exact .tail _ (.tail _ (.head _)) | exact .tail _ (.tail _ (.tail _ (.head _))) | exact .tail _ (.tail _ (.tail _ (.tail _ (.head _)))) | exact .tail _ (.tail _ (.tail _ (.tail _ (.tail _ (.head _)))))) rfl | exact hp.cellM (by first | exact List.mem_cons_self | exact .tail _ (.head _) | exact .tail _ (.tail _ (.head _)) | exact .tail _ (.tail _ (.tail _ (.head _))) | exact .tail _ (.tail _ (.tail _ (.tail _ (.head _)))) | exact .tail _ (.tail _ (.tail _ (.tail _ (.tail _ (.head _)))))) rfl | exact hp.cell_old0 ‹_› | (refine hp.cell_old0 ?_; assumption))) rfl ?_
  refine Wq_val (fun w hp => R_len_sl Tryd.underlying22 rfl) rfl ?_
  refine Wq_tail ?_
  intro w hp
  refine W_builtin (v := .string ⟨a.toArray⟩) (xs := [_, _]) rfl (fun cs => by rw [show builtin .unsafeString _ _ cs _ = (do pure (.value (← Builtin.unsafeString_ _ _ _))) from rfl, Sem.run_bind, Lib.run_unsafeString_row w 58 3 _ 5 Tryd.underlying58 (by kernel_rfl) g cur.length (hp.shapeF (List.mem_cons_of_mem _ List.mem_cons_self)) a ha (by omega) (by unfold maxLen at h2; omega) (fun j x hj => by rw [Addr.add_lit, Nat.zero_add]; exact hp.cellF (List.mem_cons_of_mem _ List.mem_cons_self) (hcell j x hj))]; rfl) rfl ?_
  obtain ⟨fz', hp⟩ := Hp.freeze (A := [_]) (o := 0) (k := a.length) hp
  revert hp; generalize w.freeze _ _ = w; intro hp
  refine W_assign rfl rfl ?_
  refine W_nil ?_
  refine N_then_k ?_
  refine K_ret ?_
  refine N_done1 (.inr rfl) rfl rfl ?_
  exact ⟨_, rfl, rfl, hp.drop (by simp)⟩

theorem string_nil (w0 : World) (b : Nat) (p : Value) (G : Heap) (w : World) (hp : Hp w0 [] ((b, .cells [p, .slice none 0 0].toArray 40) :: G) w) :
    Calls Tryd.prog 16 [.pointer (some ⟨b, 0, none⟩)].toArray w fun e w' => ∃ u, e = .returned u ∧ u = .string ⟨#[]⟩ ∧ Hp w0 [] G w' := by
  refine calls_of_K Tryd.func16 rfl rfl ?_
  refine K_seq ?_
  refine K_region ?_
  refine W_assign rfl rfl ?_
  refine W_nil ?_
  refine N_then_k ?_
  refine K_seq ?_
  refine K_quiet_tail (A := [_, _, _, _, _, _, _, _, _, _]) (C := Hp _ _ _) hm hp hp.drew (by kernel_rfl) ?_
  clear hp
  refine Wq_val (fun w hp => R_move rfl) rfl ?_
  refine Wq_val (fun w hp => R_nilCheck_p rfl) rfl ?_
  refine Wq_val (fun w hp => R_fieldAddr Tryd.underlying40 rfl sz22 rfl) rfl ?_
  refine Wq_val (fun w hp => R_load_s Tryd.underlying22 rfl rfl (by first | exact hp.cellF (by first | exact List.mem_cons_self | exact .tail _ (.head _) | exact .tail _ (.tail _ (.head _)) | exact .tail _ (.tail _ (.tail _ (.head _))) | exact .tail _ (.tail _ (.tail _ (.tail _ (.head _)))) | exact .tail _ (.tail _ (.tail _ (.tail _ (.tail _ (.head _)))))) rfl | exact hp.cellM (by first | exact List.mem_cons_self | exact .tail _ (.head _) | exact .tail _ (.tail _ (.head _)) | exact .tail _ (.tail _ (.tail _ (.head _))) | exact .tail _ (.tail _ (.tail _ (.tail _ (.head _)))) | exact .tail _ (.tail _ (.tail _ (.tail _ (.tail _ (.head _)))))) rfl | exact hp.cell_old0 ‹_› | (refine hp.cell_old0 ?_; assumption))) rfl ?_
  refine Wq_val (fun w hp => R_builtin (v := .pointer none) (xs := [_]) rfl (fun cs => rfl)) rfl ?_
  refine Wq_val (fun w hp => R_move rfl) rfl ?_
  refine Wq_val (fun w hp => R_nilCheck_p rfl) rfl ?_
  refine Wq_val (fun w hp => R_fieldAddr Tryd.underlying40 rfl sz22 rfl) rfl ?_
  refine Wq_val (fun w hp => R_load_s Tryd.underlying22 rfl rfl (by first | exact hp.cellF (by first | exact List.mem_cons_self | exact .tail _ (.head _) | exact .tail _ (.tail _ (.head _)) | exact .tail _ (.tail _ (.tail _ (.head _))) | exact .tail _ (.tail _ (.tail _ (.tail _ (.head _)))) | exact .tail _ (.tail _ (.tail _ (.tail _ (.tail _ (.head _)))))) rfl | exact hp.cellM (by first | exact List.mem_cons_self | exact .tail _ (.head _) | exact .tail _ (.tail _ (.head _)) | exact .tail _ (.tail _ (.tail _ (.head _))) | exact .tail _ (.tail _ (.tail _ (.tail _ (.head _)))) | exact .tail _ (.tail _ (.tail _ (.tail _ (.tail _ (.head _)))))) rfl | exact hp.cell_old0 ‹_› | (refine hp.cell_old0 ?_; assumption))) rfl ?_
  refine Wq_val (fun w hp => R_len_sl Tryd.underlying22 rfl) rfl ?_
  refine Wq_tail ?_
  intro w hp
  refine W_val rfl (inb_of rfl) (R_builtin (v := .string ⟨#[]⟩) (xs := [_, _]) rfl (fun cs => by rw [show builtin .unsafeString _ _ cs _ = (do pure (.value (← Builtin.unsafeString_ _ _ _))) from rfl, Sem.run_bind, show Value.int IntKind.i64 ((0 : Nat) : Int) = Value.int IntKind.i64 0 from rfl, Lib.run_unsafeString_none w]; rfl)) ?_
  refine W_assign rfl rfl ?_
  refine W_nil ?_
  refine N_then_k ?_
  refine K_ret ?_
  refine N_done1 (.inr rfl) rfl rfl ?_
  exact ⟨_, rfl, rfl, hp.drop (List.sublist_cons_self _ _)⟩

/-- The builder at block b holds the bytes a; H are its blocks. -/
def BH (b : Nat) (a : List UInt8) (H : Heap) : Prop := ∃ p v Hs, H = (b, .cells [p, v].toArray 40) :: Hs ∧ (p = .pointer none ∨ p = .pointer (some ⟨b, 0, none⟩)) ∧ OSb 5 v a Hs ∧ (a ≠ [] ∨ (v = .slice none 0 0 ∧ Hs = []))
theorem BH.new (b : Nat) : BH b [] [(b, .cells [.pointer none, .slice none 0 0].toArray 40)] := ⟨_, _, _, rfl, .inl rfl, OSb.nil, .inr ⟨rfl, rfl⟩⟩

theorem bwrite (w0 : World) (b : Nat) (a : List UInt8) (c : UInt8) (hl : a.length ≤ 100000000) (H G : Heap) (w : World) (hb : BH b a H) (hp : Hp w0 [] (H ++ G) w) :
    Calls Tryd.prog 15 [.pointer (some ⟨b, 0, none⟩), .int .u8 (c.toNat : Int)].toArray w fun e w' => ∃ u, e = .returned u ∧ u = .nilIface ∧ ∃ H', BH b (a ++ [c]) H' ∧ Hp w0 [] (H' ++ G) w' := by
  obtain ⟨p, v, Hs, rfl, hpp, hos, _⟩ := hb
  refine (writeByte_spec w0 b p v hpp a c hl Hs G w hos hp).mono ?_
  rintro e w' ⟨u, rfl, rfl, v', Hs', ho, hp'⟩
  exact ⟨_, rfl, rfl, _, ⟨_, _, _, rfl, .inr rfl, ho, .inl (by simp)⟩, hp'⟩

theorem bstring (w0 : World) (b : Nat) (a : List UInt8) (H G : Heap) (w : World) (hb : BH b a H) (hp : Hp w0 [] (H ++ G) w) :
    Calls Tryd.prog 16 [.pointer (some ⟨b, 0, none⟩)].toArray w fun e w' => ∃ u, e = .returned u ∧ u = .string ⟨a.toArray⟩ ∧ Hp w0 [] G w' := by
  obtain ⟨p, v, Hs, rfl, hpp, hos, hn⟩ := hb
  by_cases ha : a = []
  · subst ha
    obtain ⟨rfl, rfl⟩ := hn.resolve_left (fun h => h rfl)
    exact string_nil w0 b p G w (by simpa using hp)
  · exact string_ok w0 b p v a ha Hs G w hos (by simpa using hp)

end Go.Proofs.YtgnnnlblkdfecaaDoor
