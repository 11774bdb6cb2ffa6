/-
  Package fault at this program: errors.As at its two targets.
-/
import Derived.Test.YticinfoljhlnbaaGreatDoorSxT
import Derived.Test.YticinfoljhlnbaaGreatDoorSxRow
namespace Go.Proofs.YticinfoljhlnbaaGreatDoor
open Go.Sx Go.RowKit
set_option linter.unusedVariables false
set_option linter.unusedSimpArgs false
set_option maxRecDepth 100000

/-! ### errors.As at the two targets of package fault -/
theorem xValueOf : ExtFn Tryz.prog 68 (fun args => Go.Extern.ReflectliteValue.unpack (args.getD 0 (.tuple #[]))) := ⟨Tryz.f68, Tryz.func68, by kernel_rfl, by kernel_rfl, by kernel_rfl, by kernel_rfl⟩
theorem xType : ExtFn Tryz.prog 69 (Go.Extern.ReflectliteValue.methodAny (Go.Extern.ReflectliteValue.valueError "reflectlite.Value.Type" 0) (fun t _ _ _ => Go.Extern.ReflectliteType.toType t)) := ⟨Tryz.f69, Tryz.func69, by kernel_rfl, by kernel_rfl, by kernel_rfl, by kernel_rfl⟩
theorem xIsNil : ExtFn Tryz.prog 70 (Go.Extern.ReflectliteValue.method (Go.Extern.ReflectliteValue.valueError "reflectlite.Value.IsNil" 0) Go.Extern.ReflectliteValue.isNil) := ⟨Tryz.f70, Tryz.func70, by kernel_rfl, by kernel_rfl, by kernel_rfl, by kernel_rfl⟩
theorem xTypeOf : ExtFn Tryz.prog 79 (Go.Extern.ReflectliteType.typeOf) := ⟨Tryz.f79, Tryz.func79, by kernel_rfl, by kernel_rfl, by kernel_rfl, by kernel_rfl⟩
theorem xElem : ExtFn Tryz.prog 80 (Go.Extern.ReflectliteValue.method (Go.Extern.ReflectliteValue.valueError "reflectlite.Value.Elem" 0) Go.Extern.ReflectliteValue.elem) := ⟨Tryz.f80, Tryz.func80, by kernel_rfl, by kernel_rfl, by kernel_rfl, by kernel_rfl⟩
theorem xSet : ExtFn Tryz.prog 81 (Go.Extern.ReflectliteValue.set) := ⟨Tryz.f81, Tryz.func81, by kernel_rfl, by kernel_rfl, by kernel_rfl, by kernel_rfl⟩
def errT : Value := .iface 120 (.agg #[.pointer (some ⟨2, 28, none⟩)])
theorem prt62 (a : Addr) (w : World) : (Go.Extern.ReflectliteValue.parts (.agg #[.pointer (some ⟨2, 62, none⟩), .pointer (some a), .int .u64 130])).run Tryz.prog w = .ok (some (62, a, 130)) w := by kernel_rfl
theorem prta62 (a : Addr) (w : World) : (Go.Extern.ReflectliteValue.parts (.agg #[.pointer (some ⟨2, 62, none⟩), .pointer (some a), .int .u64 386])).run Tryz.prog w = .ok (some (62, a, 386)) w := by kernel_rfl
theorem dir62 (w : World) : (Go.Extern.Rtype.directlyAssignable 62 62).run Tryz.prog w = .ok true w := by kernel_rfl
theorem prt81 (a : Addr) (w : World) : (Go.Extern.ReflectliteValue.parts (.agg #[.pointer (some ⟨2, 81, none⟩), .pointer (some a), .int .u64 153])).run Tryz.prog w = .ok (some (81, a, 153)) w := by kernel_rfl
theorem prta81 (a : Addr) (w : World) : (Go.Extern.ReflectliteValue.parts (.agg #[.pointer (some ⟨2, 81, none⟩), .pointer (some a), .int .u64 409])).run Tryz.prog w = .ok (some (81, a, 409)) w := by kernel_rfl
theorem dir81 (w : World) : (Go.Extern.Rtype.directlyAssignable 81 81).run Tryz.prog w = .ok true w := by kernel_rfl
theorem prt87 (a : Addr) (w : World) : (Go.Extern.ReflectliteValue.parts (.agg #[.pointer (some ⟨2, 87, none⟩), .pointer (some a), .int .u64 150])).run Tryz.prog w = .ok (some (87, a, 150)) w := by kernel_rfl
theorem elo87 (w : World) : (Go.Extern.Rtype.elem? 87).run Tryz.prog w = .ok (some 62) w := by kernel_rfl
theorem mkv87 (p : Addr) (w : World) : (Go.Extern.ReflectliteValue.mk 62 p Go.Extern.ReflectliteValue.flagAddr).run Tryz.prog w = .ok (.agg #[.pointer (some ⟨2, 62, none⟩), .pointer (some p), .int .u64 386]) w := by kernel_rfl
theorem prt88 (a : Addr) (w : World) : (Go.Extern.ReflectliteValue.parts (.agg #[.pointer (some ⟨2, 88, none⟩), .pointer (some a), .int .u64 150])).run Tryz.prog w = .ok (some (88, a, 150)) w := by kernel_rfl
theorem elo88 (w : World) : (Go.Extern.Rtype.elem? 88).run Tryz.prog w = .ok (some 81) w := by kernel_rfl
theorem mkv88 (p : Addr) (w : World) : (Go.Extern.ReflectliteValue.mk 81 p Go.Extern.ReflectliteValue.flagAddr).run Tryz.prog w = .ok (.agg #[.pointer (some ⟨2, 81, none⟩), .pointer (some p), .int .u64 409]) w := by kernel_rfl
theorem noAs81 (v : Value) (xT : TypeId) (w : World) : (Instr.typeAssert (.iface 81 v) xT 125 true).run Tryz.prog w = .ok (.tuple #[.nilIface, .bool false]) w := run_typeAssert_lacksB Tryz.underlying125 (by kernel_rfl) (by kernel_rfl) v xT w

theorem unwrap_spec (s k : Int) : PureF Tryz.prog 121 [.agg #[.int .i64 s, .int .i64 k]] (.iface 62 (.int .i64 s)) := by
  refine PureF.intro go121 Tryz.func121 rfl rfl fun w0 hp => ?_
  refine K_seq ?_
  refine K_region ?_
  refine W_box hp rfl rfl rfl ?_
  clear hp; intro b1 w hp
  refine W_assign rfl rfl ?_
  refine W_nil ?_
  refine N_then_k ?_
  refine K_seq ?_
  refine K_region ?_
  refine W_fieldAddr Tryz.underlying81 rfl sz62 rfl rfl ?_
  refine W_load_s Tryz.underlying62 rfl rfl (by first | exact hp.cellF (by first | assumption | (repeat (first | exact List.mem_cons_self | apply List.mem_append_right | apply List.mem_cons_of_mem))) rfl | exact hp.cell_old0 ‹_› | (refine hp.cell_old0 ?_; assumption) | (apply hp.cellF (by assumption); rfl)) rfl ?_
  refine W_mkiface Tryz.underlying62 rfl rfl rfl ?_
  refine W_assign rfl rfl ?_
  refine W_nil ?_
  refine N_then_k ?_
  refine K_ret ?_
  refine N_done1 (.inr rfl) rfl rfl ?_
  exact ⟨_, rfl, rfl, hp.nil⟩

def stage (s k : Int) : Nat → Value
  | 0 => .iface 81 (.agg #[.int .i64 s, .int .i64 k])
  | _ => .iface 62 (.int .i64 s)

theorem as_status (w0 : World) (s k : Int) (bt bp : Nat) (hne : bt ≠ bp) (hbp : w0.cell? ⟨bp, 0, none⟩ = some (.pointer (some ⟨bt, 0, none⟩))) (hp : Hp w0 [(bt, .cells [.int .i64 0].toArray 62)] [] w0) :
    Calls Tryz.prog 71 [.iface 81 (.agg #[.int .i64 s, .int .i64 k]), .iface 87 (.pointer (some ⟨bt, 0, none⟩)), .agg #[.pointer (some ⟨2, 87, none⟩), .pointer (some ⟨bp, 0, none⟩), .int .u64 150], .iface 120 (.agg #[.pointer (some ⟨2, 62, none⟩)])].toArray w0 fun e w' => ∃ v, e = .returned v ∧ v = .bool true ∧ Hp w0 [(bt, .cells [.int .i64 s].toArray 62)] [] w' := by
  refine calls_of_K Tryz.func71 rfl rfl ?_
  have w := w0
  refine K_seq ?_
  refine K_region ?_
  refine W_box hp rfl rfl rfl ?_
  clear hp; intro b6 w hp
  refine W_assign rfl rfl ?_
  refine W_nil ?_
  refine N_then_k ?_
  refine K_block ?_
  refine K_loop (σ := Nat) [0, 8, 9, 10, 11, 12, 14, 15, 16, 17, 18, 19, 20, 21, 22, 23, 24, 25, 26, 27, 28, 29, 30, 31, 32, 33, 34, 35, 36, 37, 38, 39, 40, 41, 42, 43, 44, 45, 46, 47, 48, 49, 50, 51, 52, 53, 54, 55, 56, 57, 58, 59, 60, 61]
      (fun i => [(0, stage s k i)])
      (fun i w => Hp w0 [(bt, .cells [.int .i64 0].toArray 62)] [(b6, .cells [.pointer (some ⟨2, 87, none⟩), .pointer (some ⟨bp, 0, none⟩), .int .u64 150].toArray 102)] w ∧ i ≤ 1)
      (fun i => 1 - i) (0) ?_ ?_ ?_
  · repeat' (first | exact sub_lst_nil (sub_nil _) | refine sub_lst rfl ?_ | (refine sub_lst_eq rfl ?_ ?_; · first | rfl | (simp; done) | (congr 1; omega)))
  · exact ⟨hp, Nat.zero_le _⟩
  · intro i w hJ
    clear hp
    obtain ⟨hp, hi⟩ := hJ
    rcases (show i = 0 ∨ i = 1 by omega) with rfl | rfl
    all_goals (
 refine K_block ?_
 refine K_seq ?_
 refine K_seq ?_
 refine K_region ?_
 refine W_move rfl rfl ?_
 first
   | (refine W_val rfl (inb_of rfl) (R_ext (v := .iface 120 (.agg #[.pointer (some ⟨2, 81, none⟩)])) xTypeOf (xs := [_]) rfl (show (Go.Extern.ReflectliteType.typeOf #[.iface 81 (.agg #[.int .i64 s, .int .i64 k])]).run Tryz.prog w = _ by kernel_rfl)) ?_)
   | (refine W_val rfl (inb_of rfl) (R_ext (v := .iface 120 (.agg #[.pointer (some ⟨2, 62, none⟩)])) xTypeOf (xs := [_]) rfl (show (Go.Extern.ReflectliteType.typeOf #[.iface 62 (.int .i64 s)]).run Tryz.prog w = _ by kernel_rfl)) ?_)
 refine W_move rfl rfl ?_
 first
   | (refine W_val rfl (inb_of rfl) (R_invoke (v := .bool false) (u := .iface 120 (.agg #[.pointer (some ⟨2, 81, none⟩)])) (xs := [_]) rfl rfl (show (callMethod (.iface 120 (.agg #[.pointer (some ⟨2, 81, none⟩)])) "AssignableTo" #[.iface 120 (.agg #[.pointer (some ⟨2, 62, none⟩)])]).run Tryz.prog w = _ by kernel_rfl)) ?_)
   | (refine W_val rfl (inb_of rfl) (R_invoke (v := .bool true) (u := .iface 120 (.agg #[.pointer (some ⟨2, 62, none⟩)])) (xs := [_]) rfl rfl (show (callMethod (.iface 120 (.agg #[.pointer (some ⟨2, 62, none⟩)])) "AssignableTo" #[.iface 120 (.agg #[.pointer (some ⟨2, 62, none⟩)])]).run Tryz.prog w = _ by kernel_rfl)) ?_)
 refine W_nil ?_
 refine N_then_k ?_
 first
   | refine K_cond_d rfl (fun hc1 => ?_) (fun hc1 => ?_)
   | refine K_cond_n rfl (fun hc1 => ?_) (fun hc1 => ?_)
   | refine K_cond_nb rfl (fun hc1 => ?_) (fun hc1 => ?_)
   | refine K_cond_t rfl (fun hc1 => ?_) (fun hc1 => ?_)
 · try (exfalso; first | omega | (simp only [Bool.false_eq_true, reduceCtorEq] at hc1; done) | (refine absurd hc1 ?_; with_reducible assumption) | (refine absurd ?_ hc1; with_reducible assumption))
   all_goals (
 refine K_seq ?_
 refine K_region ?_
 refine W_load_own Tryz.underlying102 rfl sz102 rfl hp (by first | assumption | (repeat (first | exact List.mem_cons_self | apply List.mem_append_right | apply List.mem_cons_of_mem))) rfl rfl rfl ?_
 refine W_val rfl (inb_of rfl) (R_ext (v := .agg #[.pointer (some ⟨2, 62, none⟩), .pointer (some ⟨bt, 0, none⟩), .int .u64 386]) xElem (xs := [_]) rfl (run_elemV (prt87 _ w) Tryz.underlying87 rfl (hp.cell_old hbp (by simp; exact hne)) (elo87 w) (mkv87 _ w) _)) ?_
 refine W_move rfl rfl ?_
 refine W_ext_alloc (fun b => .agg #[.pointer (some ⟨2, 62, none⟩), .pointer (some ⟨b, 0, none⟩), .int .u64 130]) (.cells #[.int .i64 s] 62) hp xValueOf (xs := [_]) rfl ?_ rfl ?_
 · kernel_rfl
 clear hp; intro b23 w hp
 refine W_ext xSet (xs := [_, _]) (v := .tuple #[]) rfl (run_setV (prta62 _ w) (prt62 _ w) rfl (run_load_s Tryz.underlying62 rfl (hp.cellF List.mem_cons_self rfl)) (dir62 w) (run_storeVar (vs := [.int .i64 s]) (cur := [.int .i64 0]) (hp.own (bt, .cells ([.int .i64 0] : List Value).toArray 62) (by simp)) sz62 rfl rfl (by decide) (fz := (0, 0)) (.inl (Nat.zero_le _)) (by simp [Value.oneCell']))) rfl ?_
 replace hp := Hp.setM (A := []) (B := []) (cs := [.int .i64 s].toArray) hp
 refine W_nil ?_
 refine N_then_k ?_
 refine K_seq ?_
 refine K_region ?_
 refine W_assign rfl rfl ?_
 refine W_nil ?_
 refine N_then_k ?_
 refine K_ret ?_
 refine N_then_ret ?_
 refine N_block_ret ?_
 refine N_then_ret ?_
 refine N_block_ret ?_
 refine N_done1 (.inr rfl) rfl rfl ?_
 exact ⟨_, rfl, rfl, by first | exact hp.nil | exact hp.drop (List.nil_sublist _)⟩)
 · try (exfalso; first | omega | (simp only [Bool.false_eq_true, reduceCtorEq] at hc1; done) | (refine absurd hc1 ?_; with_reducible assumption) | (refine absurd ?_ hc1; with_reducible assumption))
   all_goals (
 refine K_skip ?_
 refine N_then_k ?_
 refine K_seq ?_
 refine K_seq ?_
 refine K_region ?_
 refine W_move rfl rfl ?_
 refine W_val rfl (inb_of rfl) (R_assert (u := .iface 81 (.agg #[.int .i64 s, .int .i64 k])) (v := .tuple #[.nilIface, .bool false]) rfl (noAs81 _ _ _)) ?_
 refine W_move rfl rfl ?_
 refine W_extract rfl rfl rfl ?_
 refine W_extract rfl rfl rfl ?_
 refine W_assign rfl rfl ?_
 refine W_assign rfl rfl ?_
 refine W_nil ?_
 refine N_then_k ?_
 refine K_seq ?_
 refine K_region ?_
 refine W_move rfl rfl ?_
 refine W_move rfl rfl ?_
 first
   | refine W_guard_lit_t rfl ?_
   | refine W_guard_lit_f rfl ?_
   | refine W_guard_lit_u rfl ?_
   | refine W_guard_split_d rfl rfl rfl (fun hg2 => ?_) (fun hg2 => ?_)
   | refine W_guard_split_n rfl rfl rfl (fun hg2 => ?_) (fun hg2 => ?_)
   | refine W_guard_split_nb rfl rfl rfl (fun hg2 => ?_) (fun hg2 => ?_)
   | refine W_guard_split rfl rfl rfl (fun hg2 => ?_) (fun hg2 => ?_)
 all_goals try (exfalso; first | omega | (simp only [Bool.false_eq_true, reduceCtorEq] at hg2; done) | (refine absurd hg2 ?_; with_reducible assumption) | (refine absurd ?_ hg2; with_reducible assumption))
 all_goals (
  first
    | (iterate 3 refine W_guard_no rfl rfl rfl ?_)
    | (iterate 3 refine W_guard_un rfl rfl ?_)
    | (refine W_guard_yes rfl ?_
       refine W_move rfl rfl ?_
       refine W_guard_yes rfl ?_
       refine W_move rfl rfl ?_
       refine W_guard_yes rfl ?_
       fail "not to be reached")
  first
    | (refine W_pick_t rfl rfl rfl ?_)
    | (refine W_pick_f rfl rfl rfl ?_)
    | (refine W_pick_b rfl rfl rfl rfl ?_)
  refine W_nil ?_
  refine N_then_k ?_
  first
    | refine K_cond_d rfl (fun hc3 => ?_) (fun hc3 => ?_)
    | refine K_cond_n rfl (fun hc3 => ?_) (fun hc3 => ?_)
    | refine K_cond_nb rfl (fun hc3 => ?_) (fun hc3 => ?_)
    | refine K_cond_t rfl (fun hc3 => ?_) (fun hc3 => ?_)
  · try (exfalso; first | omega | (simp only [Bool.false_eq_true, reduceCtorEq] at hc3; done) | (refine absurd hc3 ?_; with_reducible assumption) | (refine absurd ?_ hc3; with_reducible assumption))
    all_goals (
 refine K_seq ?_
 fail "not to be reached")
  · try (exfalso; first | omega | (simp only [Bool.false_eq_true, reduceCtorEq] at hc3; done) | (refine absurd hc3 ?_; with_reducible assumption) | (refine absurd ?_ hc3; with_reducible assumption))
    all_goals (
 refine K_skip ?_
 refine N_then_k ?_
 refine K_seq ?_
 refine K_region ?_
 refine W_move rfl rfl ?_
 refine W_nil ?_
 refine N_then_k ?_
 refine K_block ?_
 refine K_seq ?_
 refine K_region ?_
 refine W_val rfl (inb_of rfl) (R_assert (v := .tuple #[.iface 81 (.agg #[.int .i64 s, .int .i64 k]), .bool true]) rfl ?_) ?_
 · kernel_rfl
 refine W_extract rfl rfl rfl ?_
 refine W_extract rfl rfl rfl ?_
 refine W_nil ?_
 refine N_then_k ?_
 first
   | refine K_cond_d rfl (fun hc4 => ?_) (fun hc4 => ?_)
   | refine K_cond_n rfl (fun hc4 => ?_) (fun hc4 => ?_)
   | refine K_cond_nb rfl (fun hc4 => ?_) (fun hc4 => ?_)
   | refine K_cond_t rfl (fun hc4 => ?_) (fun hc4 => ?_)
 · try (exfalso; first | omega | (simp only [Bool.false_eq_true, reduceCtorEq] at hc4; done) | (refine absurd hc4 ?_; with_reducible assumption) | (refine absurd ?_ hc4; with_reducible assumption))
   all_goals (
 refine K_seq ?_
 refine K_region ?_
 refine W_assign rfl rfl ?_
 refine W_nil ?_
 refine N_then_k ?_
 refine K_seq ?_
 refine K_region ?_
 refine W_move rfl rfl ?_
 refine W_invoke_go hp (xs := []) rfl rfl (unwrap_spec s k) ?_ rfl ?_
 · kernel_rfl
 clear hp; intro w hp
 refine W_assign rfl rfl ?_
 refine W_nil ?_
 refine N_then_k ?_
 refine K_seq ?_
 refine K_region ?_
 refine W_move rfl rfl ?_
 refine W_val rfl (inb_of rfl) (R_bin (v := .bool false) rfl rfl ?_) ?_
 · kernel_rfl
 refine W_nil ?_
 refine N_then_k ?_
 first
   | refine K_cond_d rfl (fun hc5 => ?_) (fun hc5 => ?_)
   | refine K_cond_n rfl (fun hc5 => ?_) (fun hc5 => ?_)
   | refine K_cond_nb rfl (fun hc5 => ?_) (fun hc5 => ?_)
   | refine K_cond_t rfl (fun hc5 => ?_) (fun hc5 => ?_)
 · try (exfalso; first | omega | (simp only [Bool.false_eq_true, reduceCtorEq] at hc5; done) | (refine absurd hc5 ?_; with_reducible assumption) | (refine absurd ?_ hc5; with_reducible assumption))
   all_goals (
 refine K_seq ?_
 fail "not to be reached")
 · try (exfalso; first | omega | (simp only [Bool.false_eq_true, reduceCtorEq] at hc5; done) | (refine absurd hc5 ?_; with_reducible assumption) | (refine absurd ?_ hc5; with_reducible assumption))
   all_goals (
 refine K_skip ?_
 refine N_block_normal ?_
 refine N_block_normal ?_
 refine N_again (1) (sub_end ?_ ?_) ?_ ?_
 · repeat' (first | exact sub_lst_nil (sub_nil _) | refine sub_lst rfl ?_ | (refine sub_lst_eq rfl ?_ ?_; · first | rfl | (simp; done) | (congr 1; omega)))
 · repeat' (first | exact sub_refl _ | exact sub_strip _ _ | refine sub_s_cons rfl ?_ | refine sub_s_lst rfl ?_ | refine sub_s_strip rfl ?_)
 · exact ⟨hp, Nat.le_refl _⟩
 · omega))
 · try (exfalso; first | omega | (simp only [Bool.false_eq_true, reduceCtorEq] at hc4; done) | (refine absurd hc4 ?_; with_reducible assumption) | (refine absurd ?_ hc4; with_reducible assumption))
   all_goals (
 refine K_seq ?_
 fail "not to be reached")))))

theorem as_at (w0 : World) (s k : Int) (bt bp : Nat) (hne : bt ≠ bp) (hbp : w0.cell? ⟨bp, 0, none⟩ = some (.pointer (some ⟨bt, 0, none⟩))) (hp : Hp w0 [(bt, .cells [.int .i64 0, .int .i64 0].toArray 81)] [] w0) :
    Calls Tryz.prog 71 [.iface 81 (.agg #[.int .i64 s, .int .i64 k]), .iface 88 (.pointer (some ⟨bt, 0, none⟩)), .agg #[.pointer (some ⟨2, 88, none⟩), .pointer (some ⟨bp, 0, none⟩), .int .u64 150], .iface 120 (.agg #[.pointer (some ⟨2, 81, none⟩)])].toArray w0 fun e w' => ∃ v, e = .returned v ∧ v = .bool true ∧ Hp w0 [(bt, .cells [.int .i64 s, .int .i64 k].toArray 81)] [] w' := by
  refine calls_of_K Tryz.func71 rfl rfl ?_
  have w := w0
  refine K_seq ?_
  refine K_region ?_
  refine W_box hp rfl rfl rfl ?_
  clear hp; intro b6 w hp
  refine W_assign rfl rfl ?_
  refine W_nil ?_
  refine N_then_k ?_
  refine K_block ?_
  refine K_loop (σ := Nat) [0, 8, 9, 10, 11, 12, 14, 15, 16, 17, 18, 19, 20, 21, 22, 23, 24, 25, 26, 27, 28, 29, 30, 31, 32, 33, 34, 35, 36, 37, 38, 39, 40, 41, 42, 43, 44, 45, 46, 47, 48, 49, 50, 51, 52, 53, 54, 55, 56, 57, 58, 59, 60, 61]
      (fun i => [(0, .iface 81 (.agg #[.int .i64 s, .int .i64 k]))])
      (fun i w => Hp w0 [(bt, .cells [.int .i64 0, .int .i64 0].toArray 81)] [(b6, .cells [.pointer (some ⟨2, 88, none⟩), .pointer (some ⟨bp, 0, none⟩), .int .u64 150].toArray 102)] w)
      (fun i => i) (0) ?_ ?_ ?_
  · repeat' (first | exact sub_lst_nil (sub_nil _) | refine sub_lst rfl ?_ | (refine sub_lst_eq rfl ?_ ?_; · first | rfl | (simp; done) | (congr 1; omega)))
  · exact hp
  · intro i w hJ
    clear hp
    have hp := hJ
    refine K_block ?_
    refine K_seq ?_
    refine K_seq ?_
    refine K_region ?_
    refine W_move rfl rfl ?_
    refine W_val rfl (inb_of rfl) (R_ext (v := .iface 120 (.agg #[.pointer (some ⟨2, 81, none⟩)])) xTypeOf (xs := [_]) rfl ?_) ?_
    · kernel_rfl
    refine W_move rfl rfl ?_
    refine W_val rfl (inb_of rfl) (R_invoke (v := .bool true) (xs := [_]) rfl rfl ?_) ?_
    · kernel_rfl
    refine W_nil ?_
    refine N_then_k ?_
    first
      | refine K_cond_d rfl (fun hc1 => ?_) (fun hc1 => ?_)
      | refine K_cond_n rfl (fun hc1 => ?_) (fun hc1 => ?_)
      | refine K_cond_nb rfl (fun hc1 => ?_) (fun hc1 => ?_)
      | refine K_cond_t rfl (fun hc1 => ?_) (fun hc1 => ?_)
    · try (exfalso; first | omega | (simp only [Bool.false_eq_true, reduceCtorEq] at hc1; done) | (refine absurd hc1 ?_; with_reducible assumption) | (refine absurd ?_ hc1; with_reducible assumption))
      all_goals (
 refine K_seq ?_
 refine K_region ?_
 refine W_load_own Tryz.underlying102 rfl sz102 rfl hp (by first | assumption | (repeat (first | exact List.mem_cons_self | apply List.mem_append_right | apply List.mem_cons_of_mem))) rfl rfl rfl ?_
 refine W_val rfl (inb_of rfl) (R_ext (v := .agg #[.pointer (some ⟨2, 81, none⟩), .pointer (some ⟨bt, 0, none⟩), .int .u64 409]) xElem (xs := [_]) rfl (run_elemV (prt88 _ w) Tryz.underlying88 rfl (hp.cell_old hbp (by simp; exact hne)) (elo88 w) (mkv88 _ w) _)) ?_
 refine W_move rfl rfl ?_
 refine W_ext_alloc (fun b => .agg #[.pointer (some ⟨2, 81, none⟩), .pointer (some ⟨b, 0, none⟩), .int .u64 153]) (.cells #[.int .i64 s, .int .i64 k] 81) hp xValueOf (xs := [_]) rfl ?_ rfl ?_
 · kernel_rfl
 clear hp; intro b23 w hp
 refine W_ext xSet (xs := [_, _]) (v := .tuple #[]) rfl (run_setV (prta81 _ w) (prt81 _ w) rfl (run_load_a (cs := [.int .i64 s, .int .i64 k]) Tryz.underlying81 rfl sz81 rfl (fun j v hj => by rw [Nat.zero_add]; exact hp.cellF List.mem_cons_self hj)) (dir81 w) (run_storeVar (vs := [.int .i64 s, .int .i64 k]) (cur := [.int .i64 0, .int .i64 0]) (hp.own (bt, .cells ([.int .i64 0, .int .i64 0] : List Value).toArray 81) (by simp)) sz81 rfl rfl (by decide) (fz := (0, 0)) (.inl (Nat.zero_le _)) (by simp [Value.oneCell']))) rfl ?_
 replace hp := Hp.setM (A := []) (B := []) (cs := [.int .i64 s, .int .i64 k].toArray) hp
 refine W_nil ?_
 refine N_then_k ?_
 refine K_seq ?_
 refine K_region ?_
 refine W_assign rfl rfl ?_
 refine W_nil ?_
 refine N_then_k ?_
 refine K_ret ?_
 refine N_then_ret ?_
 refine N_block_ret ?_
 refine N_then_ret ?_
 refine N_block_ret ?_
 refine N_done1 (.inr rfl) rfl rfl ?_
 exact ⟨_, rfl, rfl, by first | exact hp.nil | exact hp.drop (List.nil_sublist _)⟩)
    · try (exfalso; first | omega | (simp only [Bool.false_eq_true, reduceCtorEq] at hc1; done) | (refine absurd hc1 ?_; with_reducible assumption) | (refine absurd ?_ hc1; with_reducible assumption))
      all_goals (
 refine K_skip ?_
 refine N_then_k ?_
 refine K_seq ?_
 refine K_seq ?_
 fail "not to be reached")

/-- What package errors holds of the type 'error', in this world. -/
def ErrT (w : World) : Prop := w.cell? ⟨0, 0, none⟩ = some errT
theorem ErrT.lt {w : World} (h : ErrT w) : 0 < w.heap.size := by
  unfold ErrT World.cell? at h
  rcases Nat.lt_or_ge 0 w.heap.size with h1 | h1
  · exact h1
  · simp [Array.getElem?_eq_none h1] at h
theorem ErrT.keep {w0 w : World} {F : Heap} (h : ErrT w0) (hp : Hp w0 [] F w) : ErrT w := hp.cell_old0 h

theorem As_status (w0 : World) (s k : Int) (bt : Nat) (hb0 : bt ≠ 0) (hg : ErrT w0) (hp : Hp w0 [(bt, .cells [.int .i64 0].toArray 62)] [] w0) :
    Calls Tryz.prog 56 [.iface 81 (.agg #[.int .i64 s, .int .i64 k]), .iface 87 (.pointer (some ⟨bt, 0, none⟩))].toArray w0 fun e w' => ∃ v, e = .returned v ∧ v = .bool true ∧ Hp w0 [(bt, .cells [.int .i64 s].toArray 62)] [] w' := by
  refine calls_of_K Tryz.func56 rfl rfl ?_
  have w := w0
  refine K_seq ?_
  refine K_region ?_
  refine W_assign rfl rfl ?_
  refine W_nil ?_
  refine N_then_k ?_
  refine K_seq ?_
  refine K_seq ?_
  refine K_region ?_
  refine W_move rfl rfl ?_
  refine W_val rfl (inb_of rfl) (R_bin (v := .bool false) rfl rfl ?_) ?_
  · kernel_rfl
  refine W_nil ?_
  refine N_then_k ?_
  first
    | refine K_cond_d rfl (fun hc1 => ?_) (fun hc1 => ?_)
    | refine K_cond_n rfl (fun hc1 => ?_) (fun hc1 => ?_)
    | refine K_cond_nb rfl (fun hc1 => ?_) (fun hc1 => ?_)
    | refine K_cond_t rfl (fun hc1 => ?_) (fun hc1 => ?_)
  · try (exfalso; first | omega | (simp only [Bool.false_eq_true, reduceCtorEq] at hc1; done) | (refine absurd hc1 ?_; with_reducible assumption) | (refine absurd ?_ hc1; with_reducible assumption))
    all_goals (
 refine K_seq ?_
 fail "not to be reached")
  · try (exfalso; first | omega | (simp only [Bool.false_eq_true, reduceCtorEq] at hc1; done) | (refine absurd hc1 ?_; with_reducible assumption) | (refine absurd ?_ hc1; with_reducible assumption))
    all_goals (
 refine K_skip ?_
 refine N_then_k ?_
 refine K_seq ?_
 refine K_seq ?_
 refine K_region ?_
 refine W_move rfl rfl ?_
 refine W_val rfl (inb_of rfl) (R_bin (v := .bool false) rfl rfl ?_) ?_
 · kernel_rfl
 refine W_nil ?_
 refine N_then_k ?_
 first
   | refine K_cond_d rfl (fun hc2 => ?_) (fun hc2 => ?_)
   | refine K_cond_n rfl (fun hc2 => ?_) (fun hc2 => ?_)
   | refine K_cond_nb rfl (fun hc2 => ?_) (fun hc2 => ?_)
   | refine K_cond_t rfl (fun hc2 => ?_) (fun hc2 => ?_)
 · try (exfalso; first | omega | (simp only [Bool.false_eq_true, reduceCtorEq] at hc2; done) | (refine absurd hc2 ?_; with_reducible assumption) | (refine absurd ?_ hc2; with_reducible assumption))
   all_goals (
 fail "not to be reached")
 · try (exfalso; first | omega | (simp only [Bool.false_eq_true, reduceCtorEq] at hc2; done) | (refine absurd hc2 ?_; with_reducible assumption) | (refine absurd ?_ hc2; with_reducible assumption))
   all_goals (
 refine K_skip ?_
 refine N_then_k ?_
 refine K_seq ?_
 refine K_region ?_
 refine W_move rfl rfl ?_
 refine W_ext_alloc (fun b => .agg #[.pointer (some ⟨2, 87, none⟩), .pointer (some ⟨b, 0, none⟩), .int .u64 150]) (.cells #[.pointer (some ⟨bt, 0, none⟩)] 87) hp xValueOf (xs := [_]) rfl ?_ rfl ?_
 · kernel_rfl
 clear hp; intro b14 w hp
 refine W_alloc hp zv102 rfl rfl ?_
 clear hp; intro b5 w hp
 first
   | refine W_storeF (A := []) hp rfl sz102 rfl rfl rfl rfl ?_ ?_ ?_ rfl ?_
   | refine W_storeF (A := [_]) hp rfl sz102 rfl rfl rfl rfl ?_ ?_ ?_ rfl ?_
   | refine W_storeF (A := [_, _]) hp rfl sz102 rfl rfl rfl rfl ?_ ?_ ?_ rfl ?_
   | refine W_storeF (A := [_, _, _]) hp rfl sz102 rfl rfl rfl rfl ?_ ?_ ?_ rfl ?_
   | refine W_storeF (A := [_, _, _, _]) hp rfl sz102 rfl rfl rfl rfl ?_ ?_ ?_ rfl ?_
   | refine W_storeF (A := [_, _, _, _, _]) hp rfl sz102 rfl rfl rfl rfl ?_ ?_ ?_ rfl ?_
   | refine W_storeP hp sz102 rfl rfl rfl rfl (by repeat (first | exact Pick.here | apply Pick.cons | apply Pick.app)) ?_ ?_ ?_ rfl ?_
 · first | exact Nat.le_of_ble_eq_true rfl | omega | (simp; omega)
 · first | exact .inl (Nat.zero_le _) | omega
 · first | (intro v hv; simp at hv; subst hv; rfl) | (simp [Value.oneCell']; done) | (simp [Value.oneCell', strV]; done) | (simp [Value.cells, Value.oneCell', strV]; done)
 clear hp; intro w hp
 simp only [List.nil_append, List.cons_append, List.append_nil, List.take_succ_cons, List.take_zero, List.drop_succ_cons, List.drop_zero, List.take_nil, List.drop_nil, Nat.zero_add, Nat.add_zero, Nat.reduceAdd, Int.reduceToNat, Int.toNat_natCast, Nat.reduceMul, Nat.mul_one, Nat.zero_mul] at hp
 refine W_nil ?_
 refine N_then_k ?_
 refine K_seq ?_
 refine K_region ?_
 refine W_load_own Tryz.underlying102 rfl sz102 rfl hp (by first | assumption | (repeat (first | exact List.mem_cons_self | apply List.mem_append_right | apply List.mem_cons_of_mem))) rfl rfl rfl ?_
 refine W_val rfl (inb_of rfl) (R_ext (v := .iface 120 (.agg #[.pointer (some ⟨2, 87, none⟩)])) xType (xs := [_]) rfl ?_) ?_
 · kernel_rfl
 refine W_assign rfl rfl ?_
 refine W_nil ?_
 refine N_then_k ?_
 refine K_seq ?_
 refine K_seq ?_
 refine K_region ?_
 refine W_move rfl rfl ?_
 refine W_val rfl (inb_of rfl) (R_invoke (v := .int .u8 22) (xs := []) rfl rfl ?_) ?_
 · kernel_rfl
 first
   | (refine W_neq_t rfl rfl ?_ rfl ?_; (focus (omega)))
   | (refine W_neq_f rfl rfl ?_ rfl ?_; (focus (omega)))
   | (refine W_neq rfl rfl rfl ?_)
 refine W_move rfl rfl ?_
 first
   | refine W_guard_lit_t rfl ?_
   | refine W_guard_lit_f rfl ?_
   | refine W_guard_lit_u rfl ?_
   | refine W_guard_split_d rfl rfl rfl (fun hg3 => ?_) (fun hg3 => ?_)
   | refine W_guard_split_n rfl rfl rfl (fun hg3 => ?_) (fun hg3 => ?_)
   | refine W_guard_split_nb rfl rfl rfl (fun hg3 => ?_) (fun hg3 => ?_)
   | refine W_guard_split rfl rfl rfl (fun hg3 => ?_) (fun hg3 => ?_)
 all_goals try (exfalso; first | omega | (simp only [Bool.false_eq_true, reduceCtorEq] at hg3; done) | (refine absurd hg3 ?_; with_reducible assumption) | (refine absurd ?_ hg3; with_reducible assumption))
 all_goals (
  first
    | (iterate 2 refine W_guard_no rfl rfl rfl ?_)
    | (iterate 2 refine W_guard_un rfl rfl ?_)
    | (refine W_guard_yes rfl ?_
       refine W_load_own Tryz.underlying102 rfl sz102 rfl hp (by first | assumption | (repeat (first | exact List.mem_cons_self | apply List.mem_append_right | apply List.mem_cons_of_mem))) rfl rfl rfl ?_
       refine W_guard_yes rfl ?_
       refine W_val rfl (inb_of rfl) (R_ext (v := .bool false) xIsNil (xs := [_]) rfl (run_isNil (prt87 _ w) Tryz.underlying87 rfl (hp.cellF (List.mem_cons_of_mem _ List.mem_cons_self) rfl) _)) ?_)
  first
    | (refine W_pick_t rfl rfl rfl ?_)
    | (refine W_pick_f rfl rfl rfl ?_)
    | (refine W_pick_b rfl rfl rfl rfl ?_)
  refine W_nil ?_
  refine N_then_k ?_
  first
    | refine K_cond_d rfl (fun hc4 => ?_) (fun hc4 => ?_)
    | refine K_cond_n rfl (fun hc4 => ?_) (fun hc4 => ?_)
    | refine K_cond_nb rfl (fun hc4 => ?_) (fun hc4 => ?_)
    | refine K_cond_t rfl (fun hc4 => ?_) (fun hc4 => ?_)
  · try (exfalso; first | omega | (simp only [Bool.false_eq_true, reduceCtorEq] at hc4; done) | (refine absurd hc4 ?_; with_reducible assumption) | (refine absurd ?_ hc4; with_reducible assumption))
    all_goals (
 fail "not to be reached")
  · try (exfalso; first | omega | (simp only [Bool.false_eq_true, reduceCtorEq] at hc4; done) | (refine absurd hc4 ?_; with_reducible assumption) | (refine absurd ?_ hc4; with_reducible assumption))
    all_goals (
 refine K_skip ?_
 refine N_then_k ?_
 refine K_seq ?_
 refine K_region ?_
 refine W_move rfl rfl ?_
 refine W_val rfl (inb_of rfl) (R_invoke (v := .iface 120 (.agg #[.pointer (some ⟨2, 62, none⟩)])) (xs := []) rfl rfl ?_) ?_
 · kernel_rfl
 refine W_assign rfl rfl ?_
 refine W_nil ?_
 refine N_then_k ?_
 refine K_seq ?_
 refine K_seq ?_
 refine K_region ?_
 refine W_move rfl rfl ?_
 refine W_val rfl (inb_of rfl) (R_invoke (v := .int .u8 2) (xs := []) rfl rfl ?_) ?_
 · kernel_rfl
 first
   | (refine W_neq_t rfl rfl ?_ rfl ?_; (focus (omega)))
   | (refine W_neq_f rfl rfl ?_ rfl ?_; (focus (omega)))
   | (refine W_neq rfl rfl rfl ?_)
 refine W_move rfl rfl ?_
 first
   | refine W_guard_lit_t rfl ?_
   | refine W_guard_lit_f rfl ?_
   | refine W_guard_lit_u rfl ?_
   | refine W_guard_split_d rfl rfl rfl (fun hg5 => ?_) (fun hg5 => ?_)
   | refine W_guard_split_n rfl rfl rfl (fun hg5 => ?_) (fun hg5 => ?_)
   | refine W_guard_split_nb rfl rfl rfl (fun hg5 => ?_) (fun hg5 => ?_)
   | refine W_guard_split rfl rfl rfl (fun hg5 => ?_) (fun hg5 => ?_)
 all_goals try (exfalso; first | omega | (simp only [Bool.false_eq_true, reduceCtorEq] at hg5; done) | (refine absurd hg5 ?_; with_reducible assumption) | (refine absurd ?_ hg5; with_reducible assumption))
 all_goals (
  first
    | (iterate 4 refine W_guard_no rfl rfl rfl ?_)
    | (iterate 4 refine W_guard_un rfl rfl ?_)
    | (refine W_guard_yes rfl ?_
       refine W_move rfl rfl ?_
       refine W_guard_yes rfl ?_
       refine W_load_s Tryz.underlying105 rfl rfl (by exact hp.cell_old hg (by simp; exact hb0)) rfl ?_
       refine W_guard_yes rfl ?_
       refine W_val rfl (inb_of rfl) (R_invoke (v := .bool true) (xs := [_]) rfl rfl ?_) ?_
       · kernel_rfl
       refine W_guard_yes rfl ?_
       first
         | (refine W_not_t rfl rfl ?_)
         | (refine W_not_f rfl rfl ?_)
         | (refine W_not rfl rfl ?_))
  first
    | (refine W_pick_t rfl rfl rfl ?_)
    | (refine W_pick_f rfl rfl rfl ?_)
    | (refine W_pick_b rfl rfl rfl rfl ?_)
  refine W_nil ?_
  refine N_then_k ?_
  first
    | refine K_cond_d rfl (fun hc6 => ?_) (fun hc6 => ?_)
    | refine K_cond_n rfl (fun hc6 => ?_) (fun hc6 => ?_)
    | refine K_cond_nb rfl (fun hc6 => ?_) (fun hc6 => ?_)
    | refine K_cond_t rfl (fun hc6 => ?_) (fun hc6 => ?_)
  · try (exfalso; first | omega | (simp only [Bool.false_eq_true, reduceCtorEq] at hc6; done) | (refine absurd hc6 ?_; with_reducible assumption) | (refine absurd ?_ hc6; with_reducible assumption))
    all_goals (
 fail "not to be reached")
  · try (exfalso; first | omega | (simp only [Bool.false_eq_true, reduceCtorEq] at hc6; done) | (refine absurd hc6 ?_; with_reducible assumption) | (refine absurd ?_ hc6; with_reducible assumption))
    all_goals (
 refine K_skip ?_
 refine N_then_k ?_
 refine K_seq ?_
 refine K_region ?_
 refine W_move rfl rfl ?_
 refine W_move rfl rfl ?_
 refine W_load_own Tryz.underlying102 rfl sz102 rfl hp (by first | assumption | (repeat (first | exact List.mem_cons_self | apply List.mem_append_right | apply List.mem_cons_of_mem))) rfl rfl rfl ?_
 refine W_move rfl rfl ?_
 refine W_call rfl rfl rfl (CallV.static go71 (as_status w s k bt b14 ?_ (hp.cellF (List.mem_cons_of_mem _ List.mem_cons_self) rfl) (hp.base (fun p hp => by simp at hp; simp [hp]) (by simp)))) (fun v w2 hr => ?_)
 · intro e
   have := hp.nodup
   simp [e] at this
 obtain ⟨rfl, hr⟩ := hr
 replace hp := Hp.call_upd (M' := [(bt, .cells [.int .i64 s].toArray 62)]) (F1 := []) (F1' := []) (F2 := _) (G := []) hp (by simpa using hr) rfl rfl
 simp only [List.nil_append] at hp
 clear hr; revert hp; generalize w2 = w; intro hp
 refine W_assign rfl rfl ?_
 refine W_nil ?_
 refine N_then_k ?_
 refine K_ret ?_
 refine N_done1 (.inr rfl) rfl rfl ?_
 exact ⟨_, rfl, rfl, hp.nil⟩))))))

theorem fault_status (w0 : World) (hg : ErrT w0) (s k : Int) : PureAt Tryz.prog 39 [.iface 81 (.agg #[.int .i64 s, .int .i64 k])] (.tuple #[.int .i64 s, .bool true]) w0 := by
  refine PureAt.intro go39 Tryz.func39 rfl rfl fun hp => ?_
  have w := w0
  refine K_seq ?_
  refine K_region ?_
  refine W_assign rfl rfl ?_
  refine W_assign rfl rfl ?_
  refine W_nil ?_
  refine N_then_k ?_
  refine K_seq ?_
  refine K_region ?_
  refine W_alloc hp zv62 rfl rfl ?_
  clear hp; intro b4 w hp
  refine W_nil ?_
  refine N_then_k ?_
  refine K_seq ?_
  refine K_region ?_
  refine W_move rfl rfl ?_
  refine W_mkiface Tryz.underlying87 rfl rfl rfl ?_
  have hlt0 := ErrT.lt hg
  have hfr := hp.fresh (b4, _) List.mem_cons_self
  simp only at hlt0 hfr
  refine W_call rfl rfl rfl (CallV.static go56 (As_status w s k b4 (by omega) (hp.cell_old0 hg) (hp.base (fun p hp => by simp at hp; simp [hp]) (by simp)))) (fun v w2 hr => ?_)
  obtain ⟨rfl, hr⟩ := hr
  replace hp := Hp.call_setF (A := []) (B := []) hp hr
  simp only [List.nil_append] at hp
  clear hr; revert hp; generalize w2 = w; intro hp
  refine W_assign rfl rfl ?_
  refine W_nil ?_
  refine N_then_k ?_
  refine K_seq ?_
  refine K_region ?_
  refine W_load_s Tryz.underlying62 rfl rfl (by first | exact hp.cellF (by first | assumption | (repeat (first | exact List.mem_cons_self | apply List.mem_append_right | apply List.mem_cons_of_mem))) rfl | exact hp.cell_old0 ‹_› | (refine hp.cell_old0 ?_; assumption) | (apply hp.cellF (by assumption); rfl)) rfl ?_
  refine W_move rfl rfl ?_
  refine W_assign rfl rfl ?_
  refine W_assign rfl rfl ?_
  refine W_nil ?_
  refine N_then_k ?_
  refine K_ret ?_
  refine N_done2 (.inr rfl) rfl rfl rfl ?_
  exact ⟨_, rfl, rfl, hp.nil⟩

theorem As_at (w0 : World) (s k : Int) (bt : Nat) (hb0 : bt ≠ 0) (hg : ErrT w0) (hp : Hp w0 [(bt, .cells [.int .i64 0, .int .i64 0].toArray 81)] [] w0) :
    Calls Tryz.prog 56 [.iface 81 (.agg #[.int .i64 s, .int .i64 k]), .iface 88 (.pointer (some ⟨bt, 0, none⟩))].toArray w0 fun e w' => ∃ v, e = .returned v ∧ v = .bool true ∧ Hp w0 [(bt, .cells [.int .i64 s, .int .i64 k].toArray 81)] [] w' := by
  refine calls_of_K Tryz.func56 rfl rfl ?_
  have w := w0
  refine K_seq ?_
  refine K_region ?_
  refine W_assign rfl rfl ?_
  refine W_nil ?_
  refine N_then_k ?_
  refine K_seq ?_
  refine K_seq ?_
  refine K_region ?_
  refine W_move rfl rfl ?_
  refine W_val rfl (inb_of rfl) (R_bin (v := .bool false) rfl rfl ?_) ?_
  · kernel_rfl
  refine W_nil ?_
  refine N_then_k ?_
  first
    | refine K_cond_d rfl (fun hc1 => ?_) (fun hc1 => ?_)
    | refine K_cond_n rfl (fun hc1 => ?_) (fun hc1 => ?_)
    | refine K_cond_nb rfl (fun hc1 => ?_) (fun hc1 => ?_)
    | refine K_cond_t rfl (fun hc1 => ?_) (fun hc1 => ?_)
  · try (exfalso; first | omega | (simp only [Bool.false_eq_true, reduceCtorEq] at hc1; done) | (refine absurd hc1 ?_; with_reducible assumption) | (refine absurd ?_ hc1; with_reducible assumption))
    all_goals (
 refine K_seq ?_
 fail "not to be reached")
  · try (exfalso; first | omega | (simp only [Bool.false_eq_true, reduceCtorEq] at hc1; done) | (refine absurd hc1 ?_; with_reducible assumption) | (refine absurd ?_ hc1; with_reducible assumption))
    all_goals (
 refine K_skip ?_
 refine N_then_k ?_
 refine K_seq ?_
 refine K_seq ?_
 refine K_region ?_
 refine W_move rfl rfl ?_
 refine W_val rfl (inb_of rfl) (R_bin (v := .bool false) rfl rfl ?_) ?_
 · kernel_rfl
 refine W_nil ?_
 refine N_then_k ?_
 first
   | refine K_cond_d rfl (fun hc2 => ?_) (fun hc2 => ?_)
   | refine K_cond_n rfl (fun hc2 => ?_) (fun hc2 => ?_)
   | refine K_cond_nb rfl (fun hc2 => ?_) (fun hc2 => ?_)
   | refine K_cond_t rfl (fun hc2 => ?_) (fun hc2 => ?_)
 · try (exfalso; first | omega | (simp only [Bool.false_eq_true, reduceCtorEq] at hc2; done) | (refine absurd hc2 ?_; with_reducible assumption) | (refine absurd ?_ hc2; with_reducible assumption))
   all_goals (
 fail "not to be reached")
 · try (exfalso; first | omega | (simp only [Bool.false_eq_true, reduceCtorEq] at hc2; done) | (refine absurd hc2 ?_; with_reducible assumption) | (refine absurd ?_ hc2; with_reducible assumption))
   all_goals (
 refine K_skip ?_
 refine N_then_k ?_
 refine K_seq ?_
 refine K_region ?_
 refine W_move rfl rfl ?_
 refine W_ext_alloc (fun b => .agg #[.pointer (some ⟨2, 88, none⟩), .pointer (some ⟨b, 0, none⟩), .int .u64 150]) (.cells #[.pointer (some ⟨bt, 0, none⟩)] 88) hp xValueOf (xs := [_]) rfl ?_ rfl ?_
 · kernel_rfl
 clear hp; intro b14 w hp
 refine W_alloc hp zv102 rfl rfl ?_
 clear hp; intro b5 w hp
 first
   | refine W_storeF (A := []) hp rfl sz102 rfl rfl rfl rfl ?_ ?_ ?_ rfl ?_
   | refine W_storeF (A := [_]) hp rfl sz102 rfl rfl rfl rfl ?_ ?_ ?_ rfl ?_
   | refine W_storeF (A := [_, _]) hp rfl sz102 rfl rfl rfl rfl ?_ ?_ ?_ rfl ?_
   | refine W_storeF (A := [_, _, _]) hp rfl sz102 rfl rfl rfl rfl ?_ ?_ ?_ rfl ?_
   | refine W_storeF (A := [_, _, _, _]) hp rfl sz102 rfl rfl rfl rfl ?_ ?_ ?_ rfl ?_
   | refine W_storeF (A := [_, _, _, _, _]) hp rfl sz102 rfl rfl rfl rfl ?_ ?_ ?_ rfl ?_
   | refine W_storeP hp sz102 rfl rfl rfl rfl (by repeat (first | exact Pick.here | apply Pick.cons | apply Pick.app)) ?_ ?_ ?_ rfl ?_
 · first | exact Nat.le_of_ble_eq_true rfl | omega | (simp; omega)
 · first | exact .inl (Nat.zero_le _) | omega
 · first | (intro v hv; simp at hv; subst hv; rfl) | (simp [Value.oneCell']; done) | (simp [Value.oneCell', strV]; done) | (simp [Value.cells, Value.oneCell', strV]; done)
 clear hp; intro w hp
 simp only [List.nil_append, List.cons_append, List.append_nil, List.take_succ_cons, List.take_zero, List.drop_succ_cons, List.drop_zero, List.take_nil, List.drop_nil, Nat.zero_add, Nat.add_zero, Nat.reduceAdd, Int.reduceToNat, Int.toNat_natCast, Nat.reduceMul, Nat.mul_one, Nat.zero_mul] at hp
 refine W_nil ?_
 refine N_then_k ?_
 refine K_seq ?_
 refine K_region ?_
 refine W_load_own Tryz.underlying102 rfl sz102 rfl hp (by first | assumption | (repeat (first | exact List.mem_cons_self | apply List.mem_append_right | apply List.mem_cons_of_mem))) rfl rfl rfl ?_
 refine W_val rfl (inb_of rfl) (R_ext (v := .iface 120 (.agg #[.pointer (some ⟨2, 88, none⟩)])) xType (xs := [_]) rfl ?_) ?_
 · kernel_rfl
 refine W_assign rfl rfl ?_
 refine W_nil ?_
 refine N_then_k ?_
 refine K_seq ?_
 refine K_seq ?_
 refine K_region ?_
 refine W_move rfl rfl ?_
 refine W_val rfl (inb_of rfl) (R_invoke (v := .int .u8 22) (xs := []) rfl rfl ?_) ?_
 · kernel_rfl
 first
   | (refine W_neq_t rfl rfl ?_ rfl ?_; (focus (omega)))
   | (refine W_neq_f rfl rfl ?_ rfl ?_; (focus (omega)))
   | (refine W_neq rfl rfl rfl ?_)
 refine W_move rfl rfl ?_
 first
   | refine W_guard_lit_t rfl ?_
   | refine W_guard_lit_f rfl ?_
   | refine W_guard_lit_u rfl ?_
   | refine W_guard_split_d rfl rfl rfl (fun hg3 => ?_) (fun hg3 => ?_)
   | refine W_guard_split_n rfl rfl rfl (fun hg3 => ?_) (fun hg3 => ?_)
   | refine W_guard_split_nb rfl rfl rfl (fun hg3 => ?_) (fun hg3 => ?_)
   | refine W_guard_split rfl rfl rfl (fun hg3 => ?_) (fun hg3 => ?_)
 all_goals try (exfalso; first | omega | (simp only [Bool.false_eq_true, reduceCtorEq] at hg3; done) | (refine absurd hg3 ?_; with_reducible assumption) | (refine absurd ?_ hg3; with_reducible assumption))
 all_goals (
  first
    | (iterate 2 refine W_guard_no rfl rfl rfl ?_)
    | (iterate 2 refine W_guard_un rfl rfl ?_)
    | (refine W_guard_yes rfl ?_
       refine W_load_own Tryz.underlying102 rfl sz102 rfl hp (by first | assumption | (repeat (first | exact List.mem_cons_self | apply List.mem_append_right | apply List.mem_cons_of_mem))) rfl rfl rfl ?_
       refine W_guard_yes rfl ?_
       refine W_val rfl (inb_of rfl) (R_ext (v := .bool false) xIsNil (xs := [_]) rfl (run_isNil (prt88 _ w) Tryz.underlying88 rfl (hp.cellF (List.mem_cons_of_mem _ List.mem_cons_self) rfl) _)) ?_)
  first
    | (refine W_pick_t rfl rfl rfl ?_)
    | (refine W_pick_f rfl rfl rfl ?_)
    | (refine W_pick_b rfl rfl rfl rfl ?_)
  refine W_nil ?_
  refine N_then_k ?_
  first
    | refine K_cond_d rfl (fun hc4 => ?_) (fun hc4 => ?_)
    | refine K_cond_n rfl (fun hc4 => ?_) (fun hc4 => ?_)
    | refine K_cond_nb rfl (fun hc4 => ?_) (fun hc4 => ?_)
    | refine K_cond_t rfl (fun hc4 => ?_) (fun hc4 => ?_)
  · try (exfalso; first | omega | (simp only [Bool.false_eq_true, reduceCtorEq] at hc4; done) | (refine absurd hc4 ?_; with_reducible assumption) | (refine absurd ?_ hc4; with_reducible assumption))
    all_goals (
 fail "not to be reached")
  · try (exfalso; first | omega | (simp only [Bool.false_eq_true, reduceCtorEq] at hc4; done) | (refine absurd hc4 ?_; with_reducible assumption) | (refine absurd ?_ hc4; with_reducible assumption))
    all_goals (
 refine K_skip ?_
 refine N_then_k ?_
 refine K_seq ?_
 refine K_region ?_
 refine W_move rfl rfl ?_
 refine W_val rfl (inb_of rfl) (R_invoke (v := .iface 120 (.agg #[.pointer (some ⟨2, 81, none⟩)])) (xs := []) rfl rfl ?_) ?_
 · kernel_rfl
 refine W_assign rfl rfl ?_
 refine W_nil ?_
 refine N_then_k ?_
 refine K_seq ?_
 refine K_seq ?_
 refine K_region ?_
 refine W_move rfl rfl ?_
 refine W_val rfl (inb_of rfl) (R_invoke (v := .int .u8 25) (xs := []) rfl rfl ?_) ?_
 · kernel_rfl
 first
   | (refine W_neq_t rfl rfl ?_ rfl ?_; (focus (omega)))
   | (refine W_neq_f rfl rfl ?_ rfl ?_; (focus (omega)))
   | (refine W_neq rfl rfl rfl ?_)
 refine W_move rfl rfl ?_
 first
   | refine W_guard_lit_t rfl ?_
   | refine W_guard_lit_f rfl ?_
   | refine W_guard_lit_u rfl ?_
   | refine W_guard_split_d rfl rfl rfl (fun hg5 => ?_) (fun hg5 => ?_)
   | refine W_guard_split_n rfl rfl rfl (fun hg5 => ?_) (fun hg5 => ?_)
   | refine W_guard_split_nb rfl rfl rfl (fun hg5 => ?_) (fun hg5 => ?_)
   | refine W_guard_split rfl rfl rfl (fun hg5 => ?_) (fun hg5 => ?_)
 all_goals try (exfalso; first | omega | (simp only [Bool.false_eq_true, reduceCtorEq] at hg5; done) | (refine absurd hg5 ?_; with_reducible assumption) | (refine absurd ?_ hg5; with_reducible assumption))
 all_goals (
  first
    | (iterate 4 refine W_guard_no rfl rfl rfl ?_)
    | (iterate 4 refine W_guard_un rfl rfl ?_)
    | (refine W_guard_yes rfl ?_
       refine W_move rfl rfl ?_
       refine W_guard_yes rfl ?_
       refine W_load_s Tryz.underlying105 rfl rfl (by exact hp.cell_old hg (by simp; exact hb0)) rfl ?_
       refine W_guard_yes rfl ?_
       refine W_val rfl (inb_of rfl) (R_invoke (v := .bool true) (xs := [_]) rfl rfl ?_) ?_
       · kernel_rfl
       refine W_guard_yes rfl ?_
       first
         | (refine W_not_t rfl rfl ?_)
         | (refine W_not_f rfl rfl ?_)
         | (refine W_not rfl rfl ?_))
  first
    | (refine W_pick_t rfl rfl rfl ?_)
    | (refine W_pick_f rfl rfl rfl ?_)
    | (refine W_pick_b rfl rfl rfl rfl ?_)
  refine W_nil ?_
  refine N_then_k ?_
  first
    | refine K_cond_d rfl (fun hc6 => ?_) (fun hc6 => ?_)
    | refine K_cond_n rfl (fun hc6 => ?_) (fun hc6 => ?_)
    | refine K_cond_nb rfl (fun hc6 => ?_) (fun hc6 => ?_)
    | refine K_cond_t rfl (fun hc6 => ?_) (fun hc6 => ?_)
  · try (exfalso; first | omega | (simp only [Bool.false_eq_true, reduceCtorEq] at hc6; done) | (refine absurd hc6 ?_; with_reducible assumption) | (refine absurd ?_ hc6; with_reducible assumption))
    all_goals (
 fail "not to be reached")
  · try (exfalso; first | omega | (simp only [Bool.false_eq_true, reduceCtorEq] at hc6; done) | (refine absurd hc6 ?_; with_reducible assumption) | (refine absurd ?_ hc6; with_reducible assumption))
    all_goals (
 refine K_skip ?_
 refine N_then_k ?_
 refine K_seq ?_
 refine K_region ?_
 refine W_move rfl rfl ?_
 refine W_move rfl rfl ?_
 refine W_load_own Tryz.underlying102 rfl sz102 rfl hp (by first | assumption | (repeat (first | exact List.mem_cons_self | apply List.mem_append_right | apply List.mem_cons_of_mem))) rfl rfl rfl ?_
 refine W_move rfl rfl ?_
 refine W_call rfl rfl rfl (CallV.static go71 (as_at w s k bt b14 ?_ (hp.cellF (List.mem_cons_of_mem _ List.mem_cons_self) rfl) (hp.base (fun p hp => by simp at hp; simp [hp]) (by simp)))) (fun v w2 hr => ?_)
 · intro e
   have := hp.nodup
   simp [e] at this
 obtain ⟨rfl, hr⟩ := hr
 replace hp := Hp.call_upd (M' := [(bt, .cells [.int .i64 s, .int .i64 k].toArray 81)]) (F1 := []) (F1' := []) (F2 := _) (G := []) hp (by simpa using hr) rfl rfl
 simp only [List.nil_append] at hp
 clear hr; revert hp; generalize w2 = w; intro hp
 refine W_assign rfl rfl ?_
 refine W_nil ?_
 refine N_then_k ?_
 refine K_ret ?_
 refine N_done1 (.inr rfl) rfl rfl ?_
 exact ⟨_, rfl, rfl, hp.nil⟩))))))

theorem fault_at (w0 : World) (hg : ErrT w0) (s k : Int) : PureAt Tryz.prog 40 [.iface 81 (.agg #[.int .i64 s, .int .i64 k])] (.tuple #[.int .i64 k, .bool true]) w0 := by
  refine PureAt.intro go40 Tryz.func40 rfl rfl fun hp => ?_
  have w := w0
  refine K_seq ?_
  refine K_region ?_
  refine W_assign rfl rfl ?_
  refine W_assign rfl rfl ?_
  refine W_nil ?_
  refine N_then_k ?_
  refine K_seq ?_
  refine K_region ?_
  refine W_alloc hp zv81 rfl rfl ?_
  clear hp; intro b4 w hp
  refine W_nil ?_
  refine N_then_k ?_
  refine K_seq ?_
  refine K_region ?_
  refine W_move rfl rfl ?_
  refine W_mkiface Tryz.underlying88 rfl rfl rfl ?_
  have hlt0 := ErrT.lt hg
  have hfr := hp.fresh (b4, _) List.mem_cons_self
  simp only at hlt0 hfr
  refine W_call rfl rfl rfl (CallV.static go56 (As_at w s k b4 (by omega) (hp.cell_old0 hg) (hp.base (fun p hp => by simp at hp; simp [hp]) (by simp)))) (fun v w2 hr => ?_)
  obtain ⟨rfl, hr⟩ := hr
  replace hp := Hp.call_setF (A := []) (B := []) hp hr
  simp only [List.nil_append] at hp
  clear hr; revert hp; generalize w2 = w; intro hp
  refine W_assign rfl rfl ?_
  refine W_nil ?_
  refine N_then_k ?_
  refine K_seq ?_
  refine K_region ?_
  refine W_fieldAddr Tryz.underlying81 rfl sz3 rfl rfl ?_
  refine W_load_s Tryz.underlying3 rfl rfl (by first | exact hp.cellF (by first | assumption | (repeat (first | exact List.mem_cons_self | apply List.mem_append_right | apply List.mem_cons_of_mem))) rfl | exact hp.cell_old0 ‹_› | (refine hp.cell_old0 ?_; assumption) | (apply hp.cellF (by assumption); rfl)) rfl ?_
  refine W_move rfl rfl ?_
  refine W_assign rfl rfl ?_
  refine W_assign rfl rfl ?_
  refine W_nil ?_
  refine N_then_k ?_
  refine K_ret ?_
  refine N_done2 (.inr rfl) rfl rfl rfl ?_
  exact ⟨_, rfl, rfl, hp.nil⟩

theorem fault_new (s k : Int) : PureF Tryz.prog 30 [.int .i64 s, .int .i64 k] (.iface 81 (.agg #[.int .i64 s, .int .i64 k])) := by
  refine PureF.intro go30 Tryz.func30 rfl rfl fun w0 hp => ?_
  refine K_seq ?_
  refine K_region ?_
  refine W_assign rfl rfl ?_
  refine W_nil ?_
  refine N_then_k ?_
  refine K_seq ?_
  refine K_region ?_
  refine W_move rfl rfl ?_
  refine W_move rfl rfl ?_
  refine W_build2 rfl rfl  (fun v0 v1 => [v0, v1]) (by kernel_rfl) rfl ?_
  refine W_mkiface Tryz.underlying81 rfl rfl rfl ?_
  refine W_assign rfl rfl ?_
  refine W_nil ?_
  refine N_then_k ?_
  refine K_ret ?_
  refine N_done1 (.inr rfl) rfl rfl ?_
  exact ⟨_, rfl, rfl, hp.nil⟩

def fltV (s k : Int) : Value := .iface 81 (.agg #[.int .i64 s, .int .i64 k])

end Go.Proofs.YticinfoljhlnbaaGreatDoor
