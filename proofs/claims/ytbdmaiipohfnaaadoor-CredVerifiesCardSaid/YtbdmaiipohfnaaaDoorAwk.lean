/-
  The fixed examples of package cred, walked.
-/
import Derived.Test.YtbdmaiipohfnaaaDoorCrdT
import Derived.Test.YtbdmaiipohfnaaaDoorFld
import Derived.Test.YtbdmaiipohfnaaaDoorCrdV
namespace Go.Proofs.YtbdmaiipohfnaaaDoor
open Go.Sx Go.RowKit
set_option linter.unusedVariables false
set_option linter.unusedSimpArgs false
set_option maxRecDepth 100000

def basX : List UInt8 := [66, 97, 115, 105, 99, 32, 100, 84, 112, 119]
def bas1 : List UInt8 := [66, 97, 115, 105, 99, 32, 100, 84, 112]
def hshX : List UInt8 := [102, 53, 102, 57, 100, 102, 99, 97, 97, 98, 56, 102, 100, 98, 50, 102, 52, 98, 54, 101, 56, 48, 97, 100, 55, 102, 50, 98, 99, 56, 101, 50]
def usr1 : List Usr := [([117], [115], hshX)]
def fld1 : List Pair := [([65, 117, 116, 104, 111, 114, 105, 122, 97, 116, 105, 111, 110], basX)]
theorem basF : credF basX = ([117], [112], true) := by decide +kernel
theorem bas1F : credF bas1 = ([], [], false) := by decide +kernel
theorem basT : ctextF [117] [112] = basX := by decide +kernel
theorem fld1V : valuesF fld1 (lower [97, 117, 116, 104, 111, 114, 105, 122, 97, 116, 105, 111, 110]) = [basX] := by decide +kernel
theorem ver1 : verF usr1 [117] [112] = false := by
  unfold verF
  refine Bool.and_eq_false_iff.2 (.inr (decide_eq_false fun h => ?_))
  have := congrArg List.length h
  rw [hexL_length, sumF_length] at this
  exact absurd this (by decide)
theorem usr1L : ∀ u ∈ usr1, u.2.1.length ≤ 1000 ∧ u.2.2.length ≤ 100000 := by decide

theorem princ1_spec (w0 : World) (hK : Roots w0) (vh vi x0 x1 x2 x3 : Value) (Au : Option Addr) (cu : Nat) (hru : Rd w0 (.slice Au 1 cu) 1 (usrC usr1)) (vm vt vn vb : Value) (Al : Option Addr) (cl : Nat) (hrl : Rd w0 (.slice Al 1 cl) 1 (pairC fld1)) : PureAt Tryd.prog 15 [.agg #[vh, .slice Au 1 cu, vi, x0, x1, x2, x3], .agg #[vm, vt, vn, .slice Al 1 cl, vb]] (.string ⟨([] : List UInt8).toArray⟩) w0 := by
  refine PureAt.intro go15 Tryd.func15 rfl rfl fun hp => ?_
  refine (fun (hk : ∀ w, Hp w0 [] [] w → K _ _ _ _ _ w) => hk w0 hp) fun w hp => ?_
  refine K_seq ?_
  refine K_region ?_
  refine W_box hp rfl rfl rfl ?_
  clear hp; intro b2 w hp
  refine W_box hp rfl rfl rfl ?_
  clear hp; intro b3 w hp
  refine W_assign rfl rfl ?_
  refine W_nil ?_
  refine N_then_k ?_
  refine K_seq ?_
  refine K_region ?_
  refine W_fieldAddr Tryd.underlying44 rfl sz41 rfl rfl ?_
  refine W_load_s Tryd.underlying41 rfl rfl (by first | exact hp.cellF (by first | exact List.mem_cons_self | exact .tail _ (.head _) | exact .tail _ (.tail _ (.head _)) | exact .tail _ (.tail _ (.tail _ (.head _))) | exact .tail _ (.tail _ (.tail _ (.tail _ (.head _)))) | exact .tail _ (.tail _ (.tail _ (.tail _ (.tail _ (.head _))))) | exact List.mem_append_right _ (.head _) | exact List.mem_append_right _ (.tail _ (.head _)) | exact List.mem_append_right _ (.tail _ (.tail _ (.head _))) | exact .tail _ (List.mem_append_right _ (.head _)) | exact .tail _ (List.mem_append_right _ (.tail _ (.head _))) | assumption | (repeat (first | exact List.mem_cons_self | apply List.mem_append_right | apply List.mem_cons_of_mem))) rfl | exact hp.cellM (by first | exact List.mem_cons_self | exact .tail _ (.head _) | exact .tail _ (.tail _ (.head _)) | exact .tail _ (.tail _ (.tail _ (.head _))) | exact .tail _ (.tail _ (.tail _ (.tail _ (.head _)))) | exact .tail _ (.tail _ (.tail _ (.tail _ (.tail _ (.head _))))) | exact List.mem_append_right _ (.head _) | exact List.mem_append_right _ (.tail _ (.head _)) | exact List.mem_append_right _ (.tail _ (.tail _ (.head _))) | exact .tail _ (List.mem_append_right _ (.head _)) | exact .tail _ (List.mem_append_right _ (.tail _ (.head _))) | assumption | (repeat (first | exact List.mem_cons_self | apply List.mem_append_right | apply List.mem_cons_of_mem))) rfl | exact hp.cell_old0 ‹_› | (refine hp.cell_old0 ?_; assumption) | (apply hp.cellF (by assumption); rfl)) rfl ?_
  refine W_acall hp rfl (((one_spec w fld1 Al cl (hrl.keep hp) [97, 117, 116, 104, 111, 114, 105, 122, 97, 116, 105, 111, 110] (by decide) (by decide) (by decide)).eq (show oneV (valuesF fld1 (lower [97, 117, 116, 104, 111, 114, 105, 122, 97, 116, 105, 111, 110])) = .tuple #[.string ⟨basX.toArray⟩, .bool true, .nilIface] by rw [fld1V]; rfl))) rfl ?_
  clear hp; intro w hp
  refine W_move rfl rfl ?_
  refine W_extract rfl rfl rfl ?_
  refine W_extract rfl rfl rfl ?_
  refine W_extract rfl rfl rfl ?_
  refine W_assign rfl rfl ?_
  refine W_assign rfl rfl ?_
  refine W_assign rfl rfl ?_
  refine W_nil ?_
  refine N_then_k ?_
  refine K_seq ?_
  refine K_region ?_
  refine W_move rfl rfl ?_
  refine W_acall hp rfl (((cparse_spec w basX (by decide)).eq (credV_of basF))) rfl ?_
  clear hp; intro w hp
  refine W_move rfl rfl ?_
  refine W_extract rfl rfl rfl ?_
  refine W_extract rfl rfl rfl ?_
  refine W_extract rfl rfl rfl ?_
  refine W_assign rfl rfl ?_
  refine W_assign rfl rfl ?_
  refine W_assign rfl rfl ?_
  refine W_nil ?_
  refine N_then_k ?_
  refine K_seq ?_
  refine K_seq ?_
  refine K_region ?_
  refine W_move rfl rfl ?_
  first
    | (refine W_not_t rfl rfl ?_)
    | (refine W_not_f rfl rfl ?_)
    | (refine W_not rfl rfl ?_)
  refine W_move rfl rfl ?_
  first
    | refine W_guard_lit_t rfl ?_
    | refine W_guard_lit_f rfl ?_
    | refine W_guard_lit_u rfl ?_
    | refine W_guard_split_d rfl rfl rfl (fun hg1 => ?_) (fun hg1 => ?_)
    | refine W_guard_split_n rfl rfl rfl (fun hg1 => ?_) (fun hg1 => ?_)
    | refine W_guard_split_nb rfl rfl rfl (fun hg1 => ?_) (fun hg1 => ?_)
    | refine W_guard_split rfl rfl rfl (fun hg1 => ?_) (fun hg1 => ?_)
  all_goals try (exfalso; first | omega | (simp only [Bool.false_eq_true, reduceCtorEq] at hg1; done) | (refine absurd hg1 ?_; with_reducible assumption) | (refine absurd ?_ hg1; with_reducible assumption))
  all_goals (
   first
     | (iterate 2 refine W_guard_no rfl rfl rfl ?_)
     | (iterate 2 refine W_guard_un rfl rfl ?_)
     | (refine W_guard_yes rfl ?_
        refine W_move rfl rfl ?_
        refine W_guard_yes rfl ?_
        first
          | (refine W_not_t rfl rfl ?_)
          | (refine W_not_f rfl rfl ?_)
          | (refine W_not rfl rfl ?_))
   first
     | (refine W_pick_t rfl rfl rfl ?_)
     | (refine W_pick_f rfl rfl rfl ?_)
     | (refine W_pick_b rfl rfl rfl rfl ?_)
   refine W_move rfl rfl ?_
   first
     | refine W_guard_lit_t rfl ?_
     | refine W_guard_lit_f rfl ?_
     | refine W_guard_lit_u rfl ?_
     | refine W_guard_split_d rfl rfl rfl (fun hg2 => ?_) (fun hg2 => ?_)
     | refine W_guard_split_n rfl rfl rfl (fun hg2 => ?_) (fun hg2 => ?_)
     | refine W_guard_split_nb rfl rfl rfl (fun hg2 => ?_) (fun hg2 => ?_)
     | refine W_guard_split rfl rfl rfl (fun hg2 => ?_) (fun hg2 => ?_)
   all_goals try (exfalso; first | omega | (simp only [Bool.false_eq_true, reduceCtorEq] at hg2; done) | (refine absurd hg2 ?_; with_reducible assumption) | (refine absurd ?_ hg2; with_reducible assumption))
   all_goals (
    first
      | (iterate 5 refine W_guard_no rfl rfl rfl ?_)
      | (iterate 5 refine W_guard_un rfl rfl ?_)
      | (refine W_guard_yes rfl ?_
         refine W_load_own Tryd.underlying34 rfl sz34 rfl hp (by first | exact List.mem_cons_self | exact .tail _ (.head _) | exact .tail _ (.tail _ (.head _)) | exact .tail _ (.tail _ (.tail _ (.head _))) | exact .tail _ (.tail _ (.tail _ (.tail _ (.head _)))) | exact .tail _ (.tail _ (.tail _ (.tail _ (.tail _ (.head _))))) | exact List.mem_append_right _ (.head _) | exact List.mem_append_right _ (.tail _ (.head _)) | exact List.mem_append_right _ (.tail _ (.tail _ (.head _))) | exact .tail _ (List.mem_append_right _ (.head _)) | exact .tail _ (List.mem_append_right _ (.tail _ (.head _))) | assumption | (repeat (first | exact List.mem_cons_self | apply List.mem_append_right | apply List.mem_cons_of_mem))) rfl rfl rfl ?_
         refine W_guard_yes rfl ?_
         refine W_move rfl rfl ?_
         refine W_guard_yes rfl ?_
         refine W_move rfl rfl ?_
         refine W_guard_yes rfl ?_
         refine W_acall hp rfl (((verify_spec w (hK.keep hp) vh vi x0 x1 x2 x3 usr1 Au cu (hru.keep hp) (by decide) [117] [112] (by decide) (by decide) usr1L).eq (congrArg Value.bool ver1))) rfl ?_
         clear hp; intro w hp
         refine W_guard_yes rfl ?_
         first
           | (refine W_not_t rfl rfl ?_)
           | (refine W_not_f rfl rfl ?_)
           | (refine W_not rfl rfl ?_))
    first
      | (refine W_pick_t rfl rfl rfl ?_)
      | (refine W_pick_f rfl rfl rfl ?_)
      | (refine W_pick_b rfl rfl rfl rfl ?_)
    refine W_nil ?_
    refine N_then_k ?_
    first
      | refine K_cond_d rfl (fun hc3 => ?_) (fun hc3 => ?_)
      | refine K_cond_n rfl (fun hc3 => ?_) (fun hc3 => ?_)
      | refine K_cond_nb rfl (fun hc3 => ?_) (fun hc3 => ?_)
      | refine K_cond_t rfl (fun hc3 => ?_) (fun hc3 => ?_)
    · try (exfalso; first | omega | (simp only [Bool.false_eq_true, reduceCtorEq] at hc3; done) | (refine absurd hc3 ?_; with_reducible assumption) | (refine absurd ?_ hc3; with_reducible assumption))
      all_goals (
       refine K_seq ?_
       refine K_region ?_
       refine W_assign rfl rfl ?_
       refine W_nil ?_
       refine N_then_k ?_
       refine K_ret ?_
       refine N_then_ret ?_
       refine N_done1 (.inr rfl) rfl rfl ?_
       exact ⟨_, rfl, rfl, hp.nil⟩)
    · try (exfalso; first | omega | (simp only [Bool.false_eq_true, reduceCtorEq] at hc3; done) | (refine absurd hc3 ?_; with_reducible assumption) | (refine absurd ?_ hc3; with_reducible assumption))
      all_goals (
       refine K_skip ?_
       refine N_then_k ?_
       refine K_seq ?_
       refine K_region ?_
       refine W_move rfl rfl ?_
       refine W_assign rfl rfl ?_
       refine W_nil ?_
       refine N_then_k ?_
       refine K_ret ?_
       refine N_done1 (.inr rfl) rfl rfl ?_
       exact ⟨_, rfl, rfl, hp.nil⟩)))

theorem awake_spec (w0 : World) (hK : Roots w0) : PureAt Tryd.prog 6 [] (.bool true) w0 := by
  refine PureAt.intro go6 Tryd.func6 rfl rfl fun hp => ?_
  refine (fun (hk : ∀ w, Hp w0 [] [] w → K _ _ _ _ _ w) => hk w0 hp) fun w hp => ?_
  refine K_seq ?_
  refine K_region ?_
  refine W_assign rfl rfl ?_
  refine W_nil ?_
  refine N_then_k ?_
  refine K_seq ?_
  refine K_region ?_
  refine W_acall hp rfl (((cparse_spec w basX (by decide)).eq (credV_of basF))) rfl ?_
  clear hp; intro w hp
  refine W_move rfl rfl ?_
  refine W_extract rfl rfl rfl ?_
  refine W_extract rfl rfl rfl ?_
  refine W_extract rfl rfl rfl ?_
  refine W_assign rfl rfl ?_
  refine W_assign rfl rfl ?_
  refine W_assign rfl rfl ?_
  refine W_nil ?_
  refine N_then_k ?_
  refine K_seq ?_
  refine K_region ?_
  refine W_acall hp rfl (((cparse_spec w bas1 (by decide)).eq (credV_of bas1F))) rfl ?_
  clear hp; intro w hp
  refine W_move rfl rfl ?_
  refine W_extract rfl rfl rfl ?_
  refine W_extract rfl rfl rfl ?_
  refine W_extract rfl rfl rfl ?_
  refine W_assign rfl rfl ?_
  refine W_assign rfl rfl ?_
  refine W_assign rfl rfl ?_
  refine W_nil ?_
  refine N_then_k ?_
  refine K_seq ?_
  refine K_region ?_
  refine W_build3 rfl rfl rfl  (fun v0 v1 v2 => [v0, v1, v2]) (by kernel_rfl) rfl ?_
  refine W_bslice1 hp Tryd.underlying30 sz38 zv38 rfl  rfl  (fun v0 => v0.cells.toList) rfl rfl rfl ?_
  clear hp; intro b20 w hp
  try simp only [Value.cells, List.toList_toArray, List.cons_append, List.nil_append, List.append_nil] at hp
  refine W_build1 rfl  (fun v0 => [(.slice none 0 0), v0, (.string ⟨#[]⟩), .int .i64 0, .int .i64 0, .int .i64 0, .int .i64 0]) (by kernel_rfl) rfl ?_
  refine W_alloc hp zv34 rfl rfl ?_
  clear hp; intro b7 w hp
  first
    | (refine W_storeF (A := []) hp rfl sz34 rfl rfl rfl rfl ?_ ?_ ?_ rfl ?_; (focus first | exact Nat.le_of_ble_eq_true rfl | omega | (simp; omega)); (focus first | exact .inl (Nat.zero_le _) | omega); (focus first | (intro v hv; simp at hv; subst hv; rfl) | (simp [Value.oneCell']; done) | (simp [Value.oneCell', strV]; done) | (simp [Value.cells, Value.oneCell', strV]; done)))
    | (refine W_storeF (A := [_]) hp rfl sz34 rfl rfl rfl rfl ?_ ?_ ?_ rfl ?_; (focus first | exact Nat.le_of_ble_eq_true rfl | omega | (simp; omega)); (focus first | exact .inl (Nat.zero_le _) | omega); (focus first | (intro v hv; simp at hv; subst hv; rfl) | (simp [Value.oneCell']; done) | (simp [Value.oneCell', strV]; done) | (simp [Value.cells, Value.oneCell', strV]; done)))
    | (refine W_storeF (A := [_, _]) hp rfl sz34 rfl rfl rfl rfl ?_ ?_ ?_ rfl ?_; (focus first | exact Nat.le_of_ble_eq_true rfl | omega | (simp; omega)); (focus first | exact .inl (Nat.zero_le _) | omega); (focus first | (intro v hv; simp at hv; subst hv; rfl) | (simp [Value.oneCell']; done) | (simp [Value.oneCell', strV]; done) | (simp [Value.cells, Value.oneCell', strV]; done)))
    | (refine W_storeF (A := [_, _, _]) hp rfl sz34 rfl rfl rfl rfl ?_ ?_ ?_ rfl ?_; (focus first | exact Nat.le_of_ble_eq_true rfl | omega | (simp; omega)); (focus first | exact .inl (Nat.zero_le _) | omega); (focus first | (intro v hv; simp at hv; subst hv; rfl) | (simp [Value.oneCell']; done) | (simp [Value.oneCell', strV]; done) | (simp [Value.cells, Value.oneCell', strV]; done)))
    | (refine W_storeF (A := [_, _, _, _]) hp rfl sz34 rfl rfl rfl rfl ?_ ?_ ?_ rfl ?_; (focus first | exact Nat.le_of_ble_eq_true rfl | omega | (simp; omega)); (focus first | exact .inl (Nat.zero_le _) | omega); (focus first | (intro v hv; simp at hv; subst hv; rfl) | (simp [Value.oneCell']; done) | (simp [Value.oneCell', strV]; done) | (simp [Value.cells, Value.oneCell', strV]; done)))
    | (refine W_storeF (A := [_, _, _, _, _]) hp rfl sz34 rfl rfl rfl rfl ?_ ?_ ?_ rfl ?_; (focus first | exact Nat.le_of_ble_eq_true rfl | omega | (simp; omega)); (focus first | exact .inl (Nat.zero_le _) | omega); (focus first | (intro v hv; simp at hv; subst hv; rfl) | (simp [Value.oneCell']; done) | (simp [Value.oneCell', strV]; done) | (simp [Value.cells, Value.oneCell', strV]; done)))
    | (refine W_storeM (A := []) hp rfl sz34 rfl rfl rfl rfl ?_ ?_ ?_ rfl ?_; (focus first | exact Nat.le_of_ble_eq_true rfl | omega | (simp; omega)); (focus first | exact .inl (Nat.zero_le _) | omega); (focus first | (intro v hv; simp at hv; subst hv; rfl) | (simp [Value.oneCell']; done) | (simp [Value.oneCell', strV]; done) | (simp [Value.cells, Value.oneCell', strV]; done)))
    | (refine W_storeM (A := [_]) hp rfl sz34 rfl rfl rfl rfl ?_ ?_ ?_ rfl ?_; (focus first | exact Nat.le_of_ble_eq_true rfl | omega | (simp; omega)); (focus first | exact .inl (Nat.zero_le _) | omega); (focus first | (intro v hv; simp at hv; subst hv; rfl) | (simp [Value.oneCell']; done) | (simp [Value.oneCell', strV]; done) | (simp [Value.cells, Value.oneCell', strV]; done)))
    | (refine W_storeM (A := [_, _]) hp rfl sz34 rfl rfl rfl rfl ?_ ?_ ?_ rfl ?_; (focus first | exact Nat.le_of_ble_eq_true rfl | omega | (simp; omega)); (focus first | exact .inl (Nat.zero_le _) | omega); (focus first | (intro v hv; simp at hv; subst hv; rfl) | (simp [Value.oneCell']; done) | (simp [Value.oneCell', strV]; done) | (simp [Value.cells, Value.oneCell', strV]; done)))
    | (refine W_storeP hp sz34 rfl rfl rfl rfl (by repeat (first | exact Pick.here | apply Pick.cons | apply Pick.app)) ?_ ?_ ?_ rfl ?_; (focus first | exact Nat.le_of_ble_eq_true rfl | omega | (simp; omega)); (focus first | exact .inl (Nat.zero_le _) | omega); (focus first | (intro v hv; simp at hv; subst hv; rfl) | (simp [Value.oneCell']; done) | (simp [Value.oneCell', strV]; done) | (simp [Value.cells, Value.oneCell', strV]; done)))
  clear hp; intro w hp
  simp only [List.nil_append, List.cons_append, List.append_nil, List.take_succ_cons, List.take_zero, List.drop_succ_cons, List.drop_zero, List.take_nil, List.drop_nil, Nat.zero_add, Nat.add_zero, Nat.reduceAdd, Int.reduceToNat, Int.toNat_natCast, Nat.reduceMul, Nat.mul_one, Nat.zero_mul] at hp
  refine W_nil ?_
  refine N_then_k ?_
  refine K_seq ?_
  refine K_region ?_
  refine W_build2 rfl rfl  (fun v0 v1 => [v0, v1]) (by kernel_rfl) rfl ?_
  refine W_bslice1 hp Tryd.underlying41 sz40 zv40 rfl  rfl  (fun v0 => v0.cells.toList) rfl rfl rfl ?_
  clear hp; intro b23 w hp
  try simp only [Value.cells, List.toList_toArray, List.cons_append, List.nil_append, List.append_nil] at hp
  refine W_build1 rfl  (fun v0 => [(.string ⟨#[]⟩), (.string ⟨#[]⟩), (.int .i64 0), v0, (.slice none 0 0)]) (by kernel_rfl) rfl ?_
  refine W_alloc hp zv44 rfl rfl ?_
  clear hp; intro b8 w hp
  first
    | (refine W_storeF (A := []) hp rfl sz44 rfl rfl rfl rfl ?_ ?_ ?_ rfl ?_; (focus first | exact Nat.le_of_ble_eq_true rfl | omega | (simp; omega)); (focus first | exact .inl (Nat.zero_le _) | omega); (focus first | (intro v hv; simp at hv; subst hv; rfl) | (simp [Value.oneCell']; done) | (simp [Value.oneCell', strV]; done) | (simp [Value.cells, Value.oneCell', strV]; done)))
    | (refine W_storeF (A := [_]) hp rfl sz44 rfl rfl rfl rfl ?_ ?_ ?_ rfl ?_; (focus first | exact Nat.le_of_ble_eq_true rfl | omega | (simp; omega)); (focus first | exact .inl (Nat.zero_le _) | omega); (focus first | (intro v hv; simp at hv; subst hv; rfl) | (simp [Value.oneCell']; done) | (simp [Value.oneCell', strV]; done) | (simp [Value.cells, Value.oneCell', strV]; done)))
    | (refine W_storeF (A := [_, _]) hp rfl sz44 rfl rfl rfl rfl ?_ ?_ ?_ rfl ?_; (focus first | exact Nat.le_of_ble_eq_true rfl | omega | (simp; omega)); (focus first | exact .inl (Nat.zero_le _) | omega); (focus first | (intro v hv; simp at hv; subst hv; rfl) | (simp [Value.oneCell']; done) | (simp [Value.oneCell', strV]; done) | (simp [Value.cells, Value.oneCell', strV]; done)))
    | (refine W_storeF (A := [_, _, _]) hp rfl sz44 rfl rfl rfl rfl ?_ ?_ ?_ rfl ?_; (focus first | exact Nat.le_of_ble_eq_true rfl | omega | (simp; omega)); (focus first | exact .inl (Nat.zero_le _) | omega); (focus first | (intro v hv; simp at hv; subst hv; rfl) | (simp [Value.oneCell']; done) | (simp [Value.oneCell', strV]; done) | (simp [Value.cells, Value.oneCell', strV]; done)))
    | (refine W_storeF (A := [_, _, _, _]) hp rfl sz44 rfl rfl rfl rfl ?_ ?_ ?_ rfl ?_; (focus first | exact Nat.le_of_ble_eq_true rfl | omega | (simp; omega)); (focus first | exact .inl (Nat.zero_le _) | omega); (focus first | (intro v hv; simp at hv; subst hv; rfl) | (simp [Value.oneCell']; done) | (simp [Value.oneCell', strV]; done) | (simp [Value.cells, Value.oneCell', strV]; done)))
    | (refine W_storeF (A := [_, _, _, _, _]) hp rfl sz44 rfl rfl rfl rfl ?_ ?_ ?_ rfl ?_; (focus first | exact Nat.le_of_ble_eq_true rfl | omega | (simp; omega)); (focus first | exact .inl (Nat.zero_le _) | omega); (focus first | (intro v hv; simp at hv; subst hv; rfl) | (simp [Value.oneCell']; done) | (simp [Value.oneCell', strV]; done) | (simp [Value.cells, Value.oneCell', strV]; done)))
    | (refine W_storeM (A := []) hp rfl sz44 rfl rfl rfl rfl ?_ ?_ ?_ rfl ?_; (focus first | exact Nat.le_of_ble_eq_true rfl | omega | (simp; omega)); (focus first | exact .inl (Nat.zero_le _) | omega); (focus first | (intro v hv; simp at hv; subst hv; rfl) | (simp [Value.oneCell']; done) | (simp [Value.oneCell', strV]; done) | (simp [Value.cells, Value.oneCell', strV]; done)))
    | (refine W_storeM (A := [_]) hp rfl sz44 rfl rfl rfl rfl ?_ ?_ ?_ rfl ?_; (focus first | exact Nat.le_of_ble_eq_true rfl | omega | (simp; omega)); (focus first | exact .inl (Nat.zero_le _) | omega); (focus first | (intro v hv; simp at hv; subst hv; rfl) | (simp [Value.oneCell']; done) | (simp [Value.oneCell', strV]; done) | (simp [Value.cells, Value.oneCell', strV]; done)))
    | (refine W_storeM (A := [_, _]) hp rfl sz44 rfl rfl rfl rfl ?_ ?_ ?_ rfl ?_; (focus first | exact Nat.le_of_ble_eq_true rfl | omega | (simp; omega)); (focus first | exact .inl (Nat.zero_le _) | omega); (focus first | (intro v hv; simp at hv; subst hv; rfl) | (simp [Value.oneCell']; done) | (simp [Value.oneCell', strV]; done) | (simp [Value.cells, Value.oneCell', strV]; done)))
    | (refine W_storeP hp sz44 rfl rfl rfl rfl (by repeat (first | exact Pick.here | apply Pick.cons | apply Pick.app)) ?_ ?_ ?_ rfl ?_; (focus first | exact Nat.le_of_ble_eq_true rfl | omega | (simp; omega)); (focus first | exact .inl (Nat.zero_le _) | omega); (focus first | (intro v hv; simp at hv; subst hv; rfl) | (simp [Value.oneCell']; done) | (simp [Value.oneCell', strV]; done) | (simp [Value.cells, Value.oneCell', strV]; done)))
  clear hp; intro w hp
  simp only [List.nil_append, List.cons_append, List.append_nil, List.take_succ_cons, List.take_zero, List.drop_succ_cons, List.drop_zero, List.take_nil, List.drop_nil, Nat.zero_add, Nat.add_zero, Nat.reduceAdd, Int.reduceToNat, Int.toNat_natCast, Nat.reduceMul, Nat.mul_one, Nat.zero_mul] at hp
  refine W_nil ?_
  refine N_then_k ?_
  refine K_seq ?_
  refine K_region ?_
  refine W_move rfl rfl ?_
  first
    | (refine W_seql_t rfl rfl ?_ rfl ?_; (focus (first | rfl | assumption)))
    | (refine W_seql_f rfl rfl ?_ rfl ?_; (focus (first | assumption | decide | exact List.cons_ne_nil _ _)))
    | (refine W_seql rfl rfl rfl ?_)
  refine W_move rfl rfl ?_
  first
    | refine W_guard_lit_t rfl ?_
    | refine W_guard_lit_f rfl ?_
    | refine W_guard_lit_u rfl ?_
    | refine W_guard_split_d rfl rfl rfl (fun hg1 => ?_) (fun hg1 => ?_)
    | refine W_guard_split_n rfl rfl rfl (fun hg1 => ?_) (fun hg1 => ?_)
    | refine W_guard_split_nb rfl rfl rfl (fun hg1 => ?_) (fun hg1 => ?_)
    | refine W_guard_split rfl rfl rfl (fun hg1 => ?_) (fun hg1 => ?_)
  all_goals try (exfalso; first | omega | (simp only [Bool.false_eq_true, reduceCtorEq] at hg1; done) | (refine absurd hg1 ?_; with_reducible assumption) | (refine absurd ?_ hg1; with_reducible assumption))
  all_goals (
   first
     | (iterate 2 refine W_guard_no rfl rfl rfl ?_)
     | (iterate 2 refine W_guard_un rfl rfl ?_)
     | (refine W_guard_yes rfl ?_
        refine W_move rfl rfl ?_
        refine W_guard_yes rfl ?_
        first
          | (refine W_seql_t rfl rfl ?_ rfl ?_; (focus (first | rfl | assumption)))
          | (refine W_seql_f rfl rfl ?_ rfl ?_; (focus (first | assumption | decide | exact List.cons_ne_nil _ _)))
          | (refine W_seql rfl rfl rfl ?_))
   first
     | (refine W_pick_t rfl rfl rfl ?_)
     | (refine W_pick_f rfl rfl rfl ?_)
     | (refine W_pick_b rfl rfl rfl rfl ?_)
   refine W_move rfl rfl ?_
   first
     | refine W_guard_lit_t rfl ?_
     | refine W_guard_lit_f rfl ?_
     | refine W_guard_lit_u rfl ?_
     | refine W_guard_split_d rfl rfl rfl (fun hg2 => ?_) (fun hg2 => ?_)
     | refine W_guard_split_n rfl rfl rfl (fun hg2 => ?_) (fun hg2 => ?_)
     | refine W_guard_split_nb rfl rfl rfl (fun hg2 => ?_) (fun hg2 => ?_)
     | refine W_guard_split rfl rfl rfl (fun hg2 => ?_) (fun hg2 => ?_)
   all_goals try (exfalso; first | omega | (simp only [Bool.false_eq_true, reduceCtorEq] at hg2; done) | (refine absurd hg2 ?_; with_reducible assumption) | (refine absurd ?_ hg2; with_reducible assumption))
   all_goals (
    first
      | (refine W_guard_no rfl rfl rfl ?_)
      | (refine W_guard_un rfl rfl ?_)
      | (refine W_guard_yes rfl ?_
         refine W_move rfl rfl ?_)
    first
      | (refine W_pick_t rfl rfl rfl ?_)
      | (refine W_pick_f rfl rfl rfl ?_)
      | (refine W_pick_b rfl rfl rfl rfl ?_)
    refine W_move rfl rfl ?_
    first
      | refine W_guard_lit_t rfl ?_
      | refine W_guard_lit_f rfl ?_
      | refine W_guard_lit_u rfl ?_
      | refine W_guard_split_d rfl rfl rfl (fun hg3 => ?_) (fun hg3 => ?_)
      | refine W_guard_split_n rfl rfl rfl (fun hg3 => ?_) (fun hg3 => ?_)
      | refine W_guard_split_nb rfl rfl rfl (fun hg3 => ?_) (fun hg3 => ?_)
      | refine W_guard_split rfl rfl rfl (fun hg3 => ?_) (fun hg3 => ?_)
    all_goals try (exfalso; first | omega | (simp only [Bool.false_eq_true, reduceCtorEq] at hg3; done) | (refine absurd hg3 ?_; with_reducible assumption) | (refine absurd ?_ hg3; with_reducible assumption))
    all_goals (
     first
       | (iterate 2 refine W_guard_no rfl rfl rfl ?_)
       | (iterate 2 refine W_guard_un rfl rfl ?_)
       | (refine W_guard_yes rfl ?_
          refine W_move rfl rfl ?_
          refine W_guard_yes rfl ?_
          first
            | (refine W_not_t rfl rfl ?_)
            | (refine W_not_f rfl rfl ?_)
            | (refine W_not rfl rfl ?_))
     first
       | (refine W_pick_t rfl rfl rfl ?_)
       | (refine W_pick_f rfl rfl rfl ?_)
       | (refine W_pick_b rfl rfl rfl rfl ?_)
     refine W_move rfl rfl ?_
     first
       | refine W_guard_lit_t rfl ?_
       | refine W_guard_lit_f rfl ?_
       | refine W_guard_lit_u rfl ?_
       | refine W_guard_split_d rfl rfl rfl (fun hg4 => ?_) (fun hg4 => ?_)
       | refine W_guard_split_n rfl rfl rfl (fun hg4 => ?_) (fun hg4 => ?_)
       | refine W_guard_split_nb rfl rfl rfl (fun hg4 => ?_) (fun hg4 => ?_)
       | refine W_guard_split rfl rfl rfl (fun hg4 => ?_) (fun hg4 => ?_)
     all_goals try (exfalso; first | omega | (simp only [Bool.false_eq_true, reduceCtorEq] at hg4; done) | (refine absurd hg4 ?_; with_reducible assumption) | (refine absurd ?_ hg4; with_reducible assumption))
     all_goals (
      first
        | (iterate 2 refine W_guard_no rfl rfl rfl ?_)
        | (iterate 2 refine W_guard_un rfl rfl ?_)
        | (refine W_guard_yes rfl ?_
           refine W_acall hp rfl (((ctext_spec w [117] [112] (by decide) (by decide)).eq (congrArg strV basT))) rfl ?_
           clear hp; intro w hp
           refine W_guard_yes rfl ?_
           first
             | (refine W_seql_t rfl rfl ?_ rfl ?_; (focus (first | rfl | assumption)))
             | (refine W_seql_f rfl rfl ?_ rfl ?_; (focus (first | assumption | decide | exact List.cons_ne_nil _ _)))
             | (refine W_seql rfl rfl rfl ?_))
      first
        | (refine W_pick_t rfl rfl rfl ?_)
        | (refine W_pick_f rfl rfl rfl ?_)
        | (refine W_pick_b rfl rfl rfl rfl ?_)
      refine W_move rfl rfl ?_
      first
        | refine W_guard_lit_t rfl ?_
        | refine W_guard_lit_f rfl ?_
        | refine W_guard_lit_u rfl ?_
        | refine W_guard_split_d rfl rfl rfl (fun hg5 => ?_) (fun hg5 => ?_)
        | refine W_guard_split_n rfl rfl rfl (fun hg5 => ?_) (fun hg5 => ?_)
        | refine W_guard_split_nb rfl rfl rfl (fun hg5 => ?_) (fun hg5 => ?_)
        | refine W_guard_split rfl rfl rfl (fun hg5 => ?_) (fun hg5 => ?_)
      all_goals try (exfalso; first | omega | (simp only [Bool.false_eq_true, reduceCtorEq] at hg5; done) | (refine absurd hg5 ?_; with_reducible assumption) | (refine absurd ?_ hg5; with_reducible assumption))
      all_goals (
       first
         | (iterate 3 refine W_guard_no rfl rfl rfl ?_)
         | (iterate 3 refine W_guard_un rfl rfl ?_)
         | (refine W_guard_yes rfl ?_
            refine W_load_own Tryd.underlying34 rfl sz34 rfl hp (by first | exact List.mem_cons_self | exact .tail _ (.head _) | exact .tail _ (.tail _ (.head _)) | exact .tail _ (.tail _ (.tail _ (.head _))) | exact .tail _ (.tail _ (.tail _ (.tail _ (.head _)))) | exact .tail _ (.tail _ (.tail _ (.tail _ (.tail _ (.head _))))) | exact List.mem_append_right _ (.head _) | exact List.mem_append_right _ (.tail _ (.head _)) | exact List.mem_append_right _ (.tail _ (.tail _ (.head _))) | exact .tail _ (List.mem_append_right _ (.head _)) | exact .tail _ (List.mem_append_right _ (.tail _ (.head _))) | assumption | (repeat (first | exact List.mem_cons_self | apply List.mem_append_right | apply List.mem_cons_of_mem))) rfl rfl rfl ?_
            refine W_guard_yes rfl ?_
            refine W_acall hp rfl (((verify_spec w (hK.keep hp) (.slice none 0 0) (.string ⟨#[]⟩) (.int .i64 0) (.int .i64 0) (.int .i64 0) (.int .i64 0) usr1 _ 1 (Rd.own hp (b := b20) (cs := usrC usr1) (.tail _ (.tail _ (.tail _ (.head _)))) (List.prefix_refl _)) (by decide) [117] [112] (by decide) (by decide) usr1L).eq (congrArg Value.bool ver1))) rfl ?_
            clear hp; intro w hp
            refine W_guard_yes rfl ?_
            first
              | (refine W_not_t rfl rfl ?_)
              | (refine W_not_f rfl rfl ?_)
              | (refine W_not rfl rfl ?_))
       first
         | (refine W_pick_t rfl rfl rfl ?_)
         | (refine W_pick_f rfl rfl rfl ?_)
         | (refine W_pick_b rfl rfl rfl rfl ?_)
       refine W_move rfl rfl ?_
       first
         | refine W_guard_lit_t rfl ?_
         | refine W_guard_lit_f rfl ?_
         | refine W_guard_lit_u rfl ?_
         | refine W_guard_split_d rfl rfl rfl (fun hg6 => ?_) (fun hg6 => ?_)
         | refine W_guard_split_n rfl rfl rfl (fun hg6 => ?_) (fun hg6 => ?_)
         | refine W_guard_split_nb rfl rfl rfl (fun hg6 => ?_) (fun hg6 => ?_)
         | refine W_guard_split rfl rfl rfl (fun hg6 => ?_) (fun hg6 => ?_)
       all_goals try (exfalso; first | omega | (simp only [Bool.false_eq_true, reduceCtorEq] at hg6; done) | (refine absurd hg6 ?_; with_reducible assumption) | (refine absurd ?_ hg6; with_reducible assumption))
       all_goals (
        first
          | (iterate 4 refine W_guard_no rfl rfl rfl ?_)
          | (iterate 4 refine W_guard_un rfl rfl ?_)
          | (refine W_guard_yes rfl ?_
             refine W_load_own Tryd.underlying34 rfl sz34 rfl hp (by first | exact List.mem_cons_self | exact .tail _ (.head _) | exact .tail _ (.tail _ (.head _)) | exact .tail _ (.tail _ (.tail _ (.head _))) | exact .tail _ (.tail _ (.tail _ (.tail _ (.head _)))) | exact .tail _ (.tail _ (.tail _ (.tail _ (.tail _ (.head _))))) | exact List.mem_append_right _ (.head _) | exact List.mem_append_right _ (.tail _ (.head _)) | exact List.mem_append_right _ (.tail _ (.tail _ (.head _))) | exact .tail _ (List.mem_append_right _ (.head _)) | exact .tail _ (List.mem_append_right _ (.tail _ (.head _))) | assumption | (repeat (first | exact List.mem_cons_self | apply List.mem_append_right | apply List.mem_cons_of_mem))) rfl rfl rfl ?_
             refine W_guard_yes rfl ?_
             refine W_load_own Tryd.underlying44 rfl sz44 rfl hp (by first | exact List.mem_cons_self | exact .tail _ (.head _) | exact .tail _ (.tail _ (.head _)) | exact .tail _ (.tail _ (.tail _ (.head _))) | exact .tail _ (.tail _ (.tail _ (.tail _ (.head _)))) | exact .tail _ (.tail _ (.tail _ (.tail _ (.tail _ (.head _))))) | exact List.mem_append_right _ (.head _) | exact List.mem_append_right _ (.tail _ (.head _)) | exact List.mem_append_right _ (.tail _ (.tail _ (.head _))) | exact .tail _ (List.mem_append_right _ (.head _)) | exact .tail _ (List.mem_append_right _ (.tail _ (.head _))) | assumption | (repeat (first | exact List.mem_cons_self | apply List.mem_append_right | apply List.mem_cons_of_mem))) rfl rfl rfl ?_
             refine W_guard_yes rfl ?_
             refine W_acall hp rfl ((princ1_spec w (hK.keep hp) (.slice none 0 0) (.string ⟨#[]⟩) (.int .i64 0) (.int .i64 0) (.int .i64 0) (.int .i64 0) _ 1 (Rd.own hp (b := b20) (cs := usrC usr1) (.tail _ (.tail _ (.tail _ (.head _)))) (List.prefix_refl _)) (.string ⟨#[]⟩) (.string ⟨#[]⟩) (.int .i64 0) (.slice none 0 0) _ 1 (Rd.own hp (b := b23) (cs := pairC fld1) (.tail _ (.head _)) (List.prefix_refl _)))) rfl ?_
             clear hp; intro w hp
             refine W_guard_yes rfl ?_
             first
               | (refine W_seql_t rfl rfl ?_ rfl ?_; (focus (first | rfl | assumption)))
               | (refine W_seql_f rfl rfl ?_ rfl ?_; (focus (first | assumption | decide | exact List.cons_ne_nil _ _)))
               | (refine W_seql rfl rfl rfl ?_))
        first
          | (refine W_pick_t rfl rfl rfl ?_)
          | (refine W_pick_f rfl rfl rfl ?_)
          | (refine W_pick_b rfl rfl rfl rfl ?_)
        refine W_assign rfl rfl ?_
        refine W_nil ?_
        refine N_then_k ?_
        refine K_ret ?_
        refine N_done1 (.inr rfl) rfl rfl ?_
        exact ⟨_, rfl, rfl, hp.nil⟩))))))

end Go.Proofs.YtbdmaiipohfnaaaDoor
