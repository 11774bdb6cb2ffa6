/-
  Package fault at this program: errors.As at its two targets.
-/
import Derived.Test.YtgnnnlblkdfecaaDoorSxT
import Derived.Test.YtgnnnlblkdfecaaDoorSxRow
namespace Go.Proofs.YtgnnnlblkdfecaaDoor
open Go.Sx Go.RowKit
set_option linter.unusedVariables false
set_option linter.unusedSimpArgs false
set_option maxRecDepth 100000

/-! ### errors.As at the two targets of package fault -/
theorem xValueOf : ExtFn Tryd.prog 33 (fun args => Go.Extern.ReflectliteValue.unpack (args.getD 0 (.tuple #[]))) := ⟨Tryd.f33, Tryd.func33, by kernel_rfl, by kernel_rfl, by kernel_rfl, by kernel_rfl⟩
theorem xType : ExtFn Tryd.prog 34 (Go.Extern.ReflectliteValue.methodAny (Go.Extern.ReflectliteValue.valueError "reflectlite.Value.Type" 0) (fun t _ _ _ => Go.Extern.ReflectliteType.toType t)) := ⟨Tryd.f34, Tryd.func34, by kernel_rfl, by kernel_rfl, by kernel_rfl, by kernel_rfl⟩
theorem xIsNil : ExtFn Tryd.prog 35 (Go.Extern.ReflectliteValue.method (Go.Extern.ReflectliteValue.valueError "reflectlite.Value.IsNil" 0) Go.Extern.ReflectliteValue.isNil) := ⟨Tryd.f35, Tryd.func35, by kernel_rfl, by kernel_rfl, by kernel_rfl, by kernel_rfl⟩
theorem xTypeOf : ExtFn Tryd.prog 37 (Go.Extern.ReflectliteType.typeOf) := ⟨Tryd.f37, Tryd.func37, by kernel_rfl, by kernel_rfl, by kernel_rfl, by kernel_rfl⟩
theorem xElem : ExtFn Tryd.prog 38 (Go.Extern.ReflectliteValue.method (Go.Extern.ReflectliteValue.valueError "reflectlite.Value.Elem" 0) Go.Extern.ReflectliteValue.elem) := ⟨Tryd.f38, Tryd.func38, by kernel_rfl, by kernel_rfl, by kernel_rfl, by kernel_rfl⟩
theorem xSet : ExtFn Tryd.prog 39 (Go.Extern.ReflectliteValue.set) := ⟨Tryd.f39, Tryd.func39, by kernel_rfl, by kernel_rfl, by kernel_rfl, by kernel_rfl⟩
def errT : Value := .iface 79 (.agg #[.pointer (some ⟨2, 26, none⟩)])
theorem prt47 (a : Addr) (w : World) : (Go.Extern.ReflectliteValue.parts (.agg #[.pointer (some ⟨2, 47, none⟩), .pointer (some a), .int .u64 130])).run Tryd.prog w = .ok (some (47, a, 130)) w := by kernel_rfl
theorem prta47 (a : Addr) (w : World) : (Go.Extern.ReflectliteValue.parts (.agg #[.pointer (some ⟨2, 47, none⟩), .pointer (some a), .int .u64 386])).run Tryd.prog w = .ok (some (47, a, 386)) w := by kernel_rfl
theorem dir47 (w : World) : (Go.Extern.Rtype.directlyAssignable 47 47).run Tryd.prog w = .ok true w := by kernel_rfl
theorem prt60 (a : Addr) (w : World) : (Go.Extern.ReflectliteValue.parts (.agg #[.pointer (some ⟨2, 60, none⟩), .pointer (some a), .int .u64 153])).run Tryd.prog w = .ok (some (60, a, 153)) w := by kernel_rfl
theorem prta60 (a : Addr) (w : World) : (Go.Extern.ReflectliteValue.parts (.agg #[.pointer (some ⟨2, 60, none⟩), .pointer (some a), .int .u64 409])).run Tryd.prog w = .ok (some (60, a, 409)) w := by kernel_rfl
theorem dir60 (w : World) : (Go.Extern.Rtype.directlyAssignable 60 60).run Tryd.prog w = .ok true w := by kernel_rfl
theorem prt63 (a : Addr) (w : World) : (Go.Extern.ReflectliteValue.parts (.agg #[.pointer (some ⟨2, 63, none⟩), .pointer (some a), .int .u64 150])).run Tryd.prog w = .ok (some (63, a, 150)) w := by kernel_rfl
theorem elo63 (w : World) : (Go.Extern.Rtype.elem? 63).run Tryd.prog w = .ok (some 47) w := by kernel_rfl
theorem mkv63 (p : Addr) (w : World) : (Go.Extern.ReflectliteValue.mk 47 p Go.Extern.ReflectliteValue.flagAddr).run Tryd.prog w = .ok (.agg #[.pointer (some ⟨2, 47, none⟩), .pointer (some p), .int .u64 386]) w := by kernel_rfl
theorem prt64 (a : Addr) (w : World) : (Go.Extern.ReflectliteValue.parts (.agg #[.pointer (some ⟨2, 64, none⟩), .pointer (some a), .int .u64 150])).run Tryd.prog w = .ok (some (64, a, 150)) w := by kernel_rfl
theorem elo64 (w : World) : (Go.Extern.Rtype.elem? 64).run Tryd.prog w = .ok (some 60) w := by kernel_rfl
theorem mkv64 (p : Addr) (w : World) : (Go.Extern.ReflectliteValue.mk 60 p Go.Extern.ReflectliteValue.flagAddr).run Tryd.prog w = .ok (.agg #[.pointer (some ⟨2, 60, none⟩), .pointer (some p), .int .u64 409]) w := by kernel_rfl
theorem noAs60 (v : Value) (xT : TypeId) (w : World) : (Instr.typeAssert (.iface 60 v) xT 84 true).run Tryd.prog w = .ok (.tuple #[.nilIface, .bool false]) w := run_typeAssert_lacksB Tryd.underlying84 (by kernel_rfl) (by kernel_rfl) v xT w

theorem unwrap_spec (s k : Int) : PureF Tryd.prog 60 [.agg #[.int .i64 s, .int .i64 k]] (.iface 47 (.int .i64 s)) := by
  refine PureF.intro go60 Tryd.func60 rfl rfl fun w0 hp => ?_
  refine K_seq ?_
  refine K_region ?_
  refine W_box hp rfl rfl rfl ?_
  clear hp; intro b1 w hp
  refine W_assign rfl rfl ?_
  refine W_nil ?_
  refine N_then_k ?_
  refine K_seq ?_
  refine K_region ?_
  refine W_fieldAddr Tryd.underlying60 rfl sz47 rfl rfl ?_
  refine W_load_s Tryd.underlying47 rfl rfl (by first | exact hp.cellF (by first | exact List.mem_cons_self | exact .tail _ (.head _) | exact .tail _ (.tail _ (.head _)) | exact .tail _ (.tail _ (.tail _ (.head _))) | exact .tail _ (.tail _ (.tail _ (.tail _ (.head _)))) | exact .tail _ (.tail _ (.tail _ (.tail _ (.tail _ (.head _)))))) rfl | exact hp.cellM (by first | exact List.mem_cons_self | exact .tail _ (.head _) | exact .tail _ (.tail _ (.head _)) | exact .tail _ (.tail _ (.tail _ (.head _))) | exact .tail _ (.tail _ (.tail _ (.tail _ (.head _)))) | exact .tail _ (.tail _ (.tail _ (.tail _ (.tail _ (.head _)))))) rfl | exact hp.cell_old0 ‹_› | (refine hp.cell_old0 ?_; assumption)) rfl ?_
  refine W_mkiface Tryd.underlying47 rfl rfl rfl ?_
  refine W_assign rfl rfl ?_
  refine W_nil ?_
  refine N_then_k ?_
  refine K_ret ?_
  refine N_done1 (.inr rfl) rfl rfl ?_
  exact ⟨_, rfl, rfl, hp.nil⟩

def stage (s k : Int) : Nat → Value
  | 0 => .iface 60 (.agg #[.int .i64 s, .int .i64 k])
  | _ => .iface 47 (.int .i64 s)

theorem as_status (w0 : World) (s k : Int) (bt bp : Nat) (hne : bt ≠ bp) (hbp : w0.cell? ⟨bp, 0, none⟩ = some (.pointer (some ⟨bt, 0, none⟩))) (hp : Hp w0 [(bt, .cells [.int .i64 0].toArray 47)] [] w0) :
    Calls Tryd.prog 36 [.iface 60 (.agg #[.int .i64 s, .int .i64 k]), .iface 63 (.pointer (some ⟨bt, 0, none⟩)), .agg #[.pointer (some ⟨2, 63, none⟩), .pointer (some ⟨bp, 0, none⟩), .int .u64 150], .iface 79 (.agg #[.pointer (some ⟨2, 47, none⟩)])].toArray w0 fun e w' => ∃ v, e = .returned v ∧ v = .bool true ∧ Hp w0 [(bt, .cells [.int .i64 s].toArray 47)] [] w' := by
  refine calls_of_K Tryd.func36 rfl rfl ?_
  have w := w0
  refine K_seq ?_
  refine K_region ?_
  refine W_box hp rfl rfl rfl ?_
  clear hp; intro b6 w hp
  refine W_assign rfl rfl ?_
  refine W_nil ?_
  refine N_then_k ?_
  refine K_block ?_
  refine K_loop (σ := Nat) [0, 8, 9, 10, 11, 12, 14, 15, 16, 17, 18, 19, 20, 21, 22, 23, 24, 25, 26, 27, 28, 29, 30, 31, 32, 33, 34, 35, 36, 37, 38, 39, 40, 41, 42, 43, 44, 45, 46, 47, 48, 49, 50, 51, 52, 53, 54, 55, 56, 57, 58, 59, 60, 61]
      (fun i => [(0, stage s k i)])
      (fun i w => Hp w0 [(bt, .cells [.int .i64 0].toArray 47)] [(b6, .cells [.pointer (some ⟨2, 63, none⟩), .pointer (some ⟨bp, 0, none⟩), .int .u64 150].toArray 69)] w ∧ i ≤ 1)
      (fun i => 1 - i) (0) ?_ ?_ ?_
  · repeat' (first | exact sub_lst_nil (sub_nil _) | refine sub_lst rfl ?_ | (refine sub_lst_eq rfl ?_ ?_; · first | rfl | (simp; done) | (congr 1; omega)))
  · exact ⟨hp, Nat.zero_le _⟩
  · intro i w hJ
    clear hp
    obtain ⟨hp, hi⟩ := hJ
    rcases (show i = 0 ∨ i = 1 by omega) with rfl | rfl
    all_goals (
     refine K_block ?_
     refine K_seq ?_
     refine K_seq ?_
     refine K_region ?_
     refine W_move rfl rfl ?_
     first
       | (refine W_val rfl (inb_of rfl) (R_ext (v := .iface 79 (.agg #[.pointer (some ⟨2, 60, none⟩)])) xTypeOf (xs := [_]) rfl (show (Go.Extern.ReflectliteType.typeOf #[.iface 60 (.agg #[.int .i64 s, .int .i64 k])]).run Tryd.prog w = _ by kernel_rfl)) ?_)
       | (refine W_val rfl (inb_of rfl) (R_ext (v := .iface 79 (.agg #[.pointer (some ⟨2, 47, none⟩)])) xTypeOf (xs := [_]) rfl (show (Go.Extern.ReflectliteType.typeOf #[.iface 47 (.int .i64 s)]).run Tryd.prog w = _ by kernel_rfl)) ?_)
     refine W_move rfl rfl ?_
     first
       | (refine W_val rfl (inb_of rfl) (R_invoke (v := .bool false) (u := .iface 79 (.agg #[.pointer (some ⟨2, 60, none⟩)])) (xs := [_]) rfl rfl (show (callMethod (.iface 79 (.agg #[.pointer (some ⟨2, 60, none⟩)])) "AssignableTo" #[.iface 79 (.agg #[.pointer (some ⟨2, 47, none⟩)])]).run Tryd.prog w = _ by kernel_rfl)) ?_)
       | (refine W_val rfl (inb_of rfl) (R_invoke (v := .bool true) (u := .iface 79 (.agg #[.pointer (some ⟨2, 47, none⟩)])) (xs := [_]) rfl rfl (show (callMethod (.iface 79 (.agg #[.pointer (some ⟨2, 47, none⟩)])) "AssignableTo" #[.iface 79 (.agg #[.pointer (some ⟨2, 47, none⟩)])]).run Tryd.prog w = _ by kernel_rfl)) ?_)
     refine W_nil ?_
     refine N_then_k ?_
     first
       | refine K_cond_d rfl (fun hc1 => ?_) (fun hc1 => ?_)
       | refine K_cond_n rfl (fun hc1 => ?_) (fun hc1 => ?_)
       | refine K_cond_nb rfl (fun hc1 => ?_) (fun hc1 => ?_)
       | refine K_cond_t rfl (fun hc1 => ?_) (fun hc1 => ?_)
     · try (exfalso; first | omega | (simp only [Bool.false_eq_true, reduceCtorEq] at hc1; done) | (refine absurd hc1 ?_; with_reducible assumption) | (refine absurd ?_ hc1; with_reducible assumption))
       all_goals (
        refine K_seq ?_
        refine K_region ?_
        refine W_load_own Tryd.underlying69 rfl sz69 rfl hp (by first | exact List.mem_cons_self | exact .tail _ (.head _) | exact .tail _ (.tail _ (.head _)) | exact .tail _ (.tail _ (.tail _ (.head _))) | exact .tail _ (.tail _ (.tail _ (.tail _ (.head _)))) | exact .tail _ (.tail _ (.tail _ (.tail _ (.tail _ (.head _)))))) rfl rfl rfl ?_
        refine W_val rfl (inb_of rfl) (R_ext (v := .agg #[.pointer (some ⟨2, 47, none⟩), .pointer (some ⟨bt, 0, none⟩), .int .u64 386]) xElem (xs := [_]) rfl (run_elemV (prt63 _ w) Tryd.underlying63 rfl (hp.cell_old hbp (by simp; exact hne)) (elo63 w) (mkv63 _ w) _)) ?_
        refine W_move rfl rfl ?_
        refine W_ext_alloc (fun b => .agg #[.pointer (some ⟨2, 47, none⟩), .pointer (some ⟨b, 0, none⟩), .int .u64 130]) (.cells #[.int .i64 s] 47) hp xValueOf (xs := [_]) rfl ?_ rfl ?_
        · kernel_rfl
        clear hp; intro b23 w hp
        refine W_ext xSet (xs := [_, _]) (v := .tuple #[]) rfl (run_setV (prta47 _ w) (prt47 _ w) rfl (run_load_s Tryd.underlying47 rfl (hp.cellF List.mem_cons_self rfl)) (dir47 w) (run_storeVar (vs := [.int .i64 s]) (cur := [.int .i64 0]) (hp.own (bt, .cells ([.int .i64 0] : List Value).toArray 47) (by simp)) sz47 rfl rfl (by decide) (fz := (0, 0)) (.inl (Nat.zero_le _)) (by simp [Value.oneCell']))) rfl ?_
        replace hp := Hp.setM (A := []) (B := []) (cs := [.int .i64 s].toArray) hp
        refine W_nil ?_
        refine N_then_k ?_
        refine K_seq ?_
        refine K_region ?_
        refine W_assign rfl rfl ?_
        refine W_nil ?_
        refine N_then_k ?_
        refine K_ret ?_
        refine N_then_ret ?_
        refine N_block_ret ?_
        refine N_then_ret ?_
        refine N_block_ret ?_
        refine N_done1 (.inr rfl) rfl rfl ?_
        exact ⟨_, rfl, rfl, by first | exact hp.nil | exact hp.drop (List.nil_sublist _)⟩)
     · try (exfalso; first | omega | (simp only [Bool.false_eq_true, reduceCtorEq] at hc1; done) | (refine absurd hc1 ?_; with_reducible assumption) | (refine absurd ?_ hc1; with_reducible assumption))
       all_goals (
        refine K_skip ?_
        refine N_then_k ?_
        refine K_seq ?_
        refine K_seq ?_
        refine K_region ?_
        refine W_move rfl rfl ?_
        refine W_val rfl (inb_of rfl) (R_assert (u := .iface 60 (.agg #[.int .i64 s, .int .i64 k])) (v := .tuple #[.nilIface, .bool false]) rfl (noAs60 _ _ _)) ?_
        refine W_move rfl rfl ?_
        refine W_extract rfl rfl rfl ?_
        refine W_extract rfl rfl rfl ?_
        refine W_assign rfl rfl ?_
        refine W_assign rfl rfl ?_
        refine W_nil ?_
        refine N_then_k ?_
        refine K_seq ?_
        refine K_region ?_
        refine W_move rfl rfl ?_
        refine W_move rfl rfl ?_
        first
          | refine W_guard_lit_t rfl ?_
          | refine W_guard_lit_f rfl ?_
          | refine W_guard_lit_u rfl ?_
          | refine W_guard_split_d rfl rfl rfl (fun hg2 => ?_) (fun hg2 => ?_)
          | refine W_guard_split_n rfl rfl rfl (fun hg2 => ?_) (fun hg2 => ?_)
          | refine W_guard_split_nb rfl rfl rfl (fun hg2 => ?_) (fun hg2 => ?_)
          | refine W_guard_split rfl rfl rfl (fun hg2 => ?_) (fun hg2 => ?_)
        all_goals try (exfalso; first | omega | (simp only [Bool.false_eq_true, reduceCtorEq] at hg2; done) | (refine absurd hg2 ?_; with_reducible assumption) | (refine absurd ?_ hg2; with_reducible assumption))
        all_goals (
         first
           | (iterate 3 refine W_guard_no rfl rfl rfl ?_)
           | (iterate 3 refine W_guard_un rfl rfl ?_)
           | (refine W_guard_yes rfl ?_
              refine W_move rfl rfl ?_
              refine W_guard_yes rfl ?_
              refine W_move rfl rfl ?_
              refine W_guard_yes rfl ?_
              fail "not to be reached")
         first
           | (refine W_pick_t rfl rfl rfl ?_)
           | (refine W_pick_f rfl rfl rfl ?_)
           | (refine W_pick_b rfl rfl rfl rfl ?_)
         refine W_nil ?_
         refine N_then_k ?_
         first
           | refine K_cond_d rfl (fun hc3 => ?_) (fun hc3 => ?_)
           | refine K_cond_n rfl (fun hc3 => ?_) (fun hc3 => ?_)
           | refine K_cond_nb rfl (fun hc3 => ?_) (fun hc3 => ?_)
           | refine K_cond_t rfl (fun hc3 => ?_) (fun hc3 => ?_)
         · try (exfalso; first | omega | (simp only [Bool.false_eq_true, reduceCtorEq] at hc3; done) | (refine absurd hc3 ?_; with_reducible assumption) | (refine absurd ?_ hc3; with_reducible assumption))
           all_goals (
            refine K_seq ?_
            fail "not to be reached")
         · try (exfalso; first | omega | (simp only [Bool.false_eq_true, reduceCtorEq] at hc3; done) | (refine absurd hc3 ?_; with_reducible assumption) | (refine absurd ?_ hc3; with_reducible assumption))
           all_goals (
            refine K_skip ?_
            refine N_then_k ?_
            refine K_seq ?_
            refine K_region ?_
            refine W_move rfl rfl ?_
            refine W_nil ?_
            refine N_then_k ?_
            refine K_block ?_
            refine K_seq ?_
            refine K_region ?_
            refine W_val rfl (inb_of rfl) (R_assert (v := .tuple #[.iface 60 (.agg #[.int .i64 s, .int .i64 k]), .bool true]) rfl ?_) ?_
            · kernel_rfl
            refine W_extract rfl rfl rfl ?_
            refine W_extract rfl rfl rfl ?_
            refine W_nil ?_
            refine N_then_k ?_
            first
              | refine K_cond_d rfl (fun hc4 => ?_) (fun hc4 => ?_)
              | refine K_cond_n rfl (fun hc4 => ?_) (fun hc4 => ?_)
              | refine K_cond_nb rfl (fun hc4 => ?_) (fun hc4 => ?_)
              | refine K_cond_t rfl (fun hc4 => ?_) (fun hc4 => ?_)
            · try (exfalso; first | omega | (simp only [Bool.false_eq_true, reduceCtorEq] at hc4; done) | (refine absurd hc4 ?_; with_reducible assumption) | (refine absurd ?_ hc4; with_reducible assumption))
              all_goals (
               refine K_seq ?_
               refine K_region ?_
               refine W_assign rfl rfl ?_
               refine W_nil ?_
               refine N_then_k ?_
               refine K_seq ?_
               refine K_region ?_
               refine W_move rfl rfl ?_
               refine W_invoke_go hp (xs := []) rfl rfl (unwrap_spec s k) ?_ rfl ?_
               · kernel_rfl
               clear hp; intro w hp
               refine W_assign rfl rfl ?_
               refine W_nil ?_
               refine N_then_k ?_
               refine K_seq ?_
               refine K_region ?_
               refine W_move rfl rfl ?_
               refine W_val rfl (inb_of rfl) (R_bin (v := .bool false) rfl rfl ?_) ?_
               · kernel_rfl
               refine W_nil ?_
               refine N_then_k ?_
               first
                 | refine K_cond_d rfl (fun hc5 => ?_) (fun hc5 => ?_)
                 | refine K_cond_n rfl (fun hc5 => ?_) (fun hc5 => ?_)
                 | refine K_cond_nb rfl (fun hc5 => ?_) (fun hc5 => ?_)
                 | refine K_cond_t rfl (fun hc5 => ?_) (fun hc5 => ?_)
               · try (exfalso; first | omega | (simp only [Bool.false_eq_true, reduceCtorEq] at hc5; done) | (refine absurd hc5 ?_; with_reducible assumption) | (refine absurd ?_ hc5; with_reducible assumption))
                 all_goals (
                  refine K_seq ?_
                  fail "not to be reached")
               · try (exfalso; first | omega | (simp only [Bool.false_eq_true, reduceCtorEq] at hc5; done) | (refine absurd hc5 ?_; with_reducible assumption) | (refine absurd ?_ hc5; with_reducible assumption))
                 all_goals (
                  refine K_skip ?_
                  refine N_block_normal ?_
                  refine N_block_normal ?_
                  refine N_again (1) (sub_end ?_ ?_) ?_ ?_
                  · repeat' (first | exact sub_lst_nil (sub_nil _) | refine sub_lst rfl ?_ | (refine sub_lst_eq rfl ?_ ?_; · first | rfl | (simp; done) | (congr 1; omega)))
                  · repeat' (first | exact sub_refl _ | exact sub_strip _ _ | refine sub_s_cons rfl ?_ | refine sub_s_lst rfl ?_ | refine sub_s_strip rfl ?_)
                  · exact ⟨hp, Nat.le_refl _⟩
                  · omega))
            · try (exfalso; first | omega | (simp only [Bool.false_eq_true, reduceCtorEq] at hc4; done) | (refine absurd hc4 ?_; with_reducible assumption) | (refine absurd ?_ hc4; with_reducible assumption))
              all_goals (
               refine K_seq ?_
               fail "not to be reached")))))

theorem as_at (w0 : World) (s k : Int) (bt bp : Nat) (hne : bt ≠ bp) (hbp : w0.cell? ⟨bp, 0, none⟩ = some (.pointer (some ⟨bt, 0, none⟩))) (hp : Hp w0 [(bt, .cells [.int .i64 0, .int .i64 0].toArray 60)] [] w0) :
    Calls Tryd.prog 36 [.iface 60 (.agg #[.int .i64 s, .int .i64 k]), .iface 64 (.pointer (some ⟨bt, 0, none⟩)), .agg #[.pointer (some ⟨2, 64, none⟩), .pointer (some ⟨bp, 0, none⟩), .int .u64 150], .iface 79 (.agg #[.pointer (some ⟨2, 60, none⟩)])].toArray w0 fun e w' => ∃ v, e = .returned v ∧ v = .bool true ∧ Hp w0 [(bt, .cells [.int .i64 s, .int .i64 k].toArray 60)] [] w' := by
  refine calls_of_K Tryd.func36 rfl rfl ?_
  have w := w0
  refine K_seq ?_
  refine K_region ?_
  refine W_box hp rfl rfl rfl ?_
  clear hp; intro b6 w hp
  refine W_assign rfl rfl ?_
  refine W_nil ?_
  refine N_then_k ?_
  refine K_block ?_
  refine K_loop (σ := Nat) [0, 8, 9, 10, 11, 12, 14, 15, 16, 17, 18, 19, 20, 21, 22, 23, 24, 25, 26, 27, 28, 29, 30, 31, 32, 33, 34, 35, 36, 37, 38, 39, 40, 41, 42, 43, 44, 45, 46, 47, 48, 49, 50, 51, 52, 53, 54, 55, 56, 57, 58, 59, 60, 61]
      (fun i => [(0, .iface 60 (.agg #[.int .i64 s, .int .i64 k]))])
      (fun i w => Hp w0 [(bt, .cells [.int .i64 0, .int .i64 0].toArray 60)] [(b6, .cells [.pointer (some ⟨2, 64, none⟩), .pointer (some ⟨bp, 0, none⟩), .int .u64 150].toArray 69)] w)
      (fun i => i) (0) ?_ ?_ ?_
  · repeat' (first | exact sub_lst_nil (sub_nil _) | refine sub_lst rfl ?_ | (refine sub_lst_eq rfl ?_ ?_; · first | rfl | (simp; done) | (congr 1; omega)))
  · exact hp
  · intro i w hJ
    clear hp
    have hp := hJ
    refine K_block ?_
    refine K_seq ?_
    refine K_seq ?_
    refine K_region ?_
    refine W_move rfl rfl ?_
    refine W_val rfl (inb_of rfl) (R_ext (v := .iface 79 (.agg #[.pointer (some ⟨2, 60, none⟩)])) xTypeOf (xs := [_]) rfl ?_) ?_
    · kernel_rfl
    refine W_move rfl rfl ?_
    refine W_val rfl (inb_of rfl) (R_invoke (v := .bool true) (xs := [_]) rfl rfl ?_) ?_
    · kernel_rfl
    refine W_nil ?_
    refine N_then_k ?_
    first
      | refine K_cond_d rfl (fun hc1 => ?_) (fun hc1 => ?_)
      | refine K_cond_n rfl (fun hc1 => ?_) (fun hc1 => ?_)
      | refine K_cond_nb rfl (fun hc1 => ?_) (fun hc1 => ?_)
      | refine K_cond_t rfl (fun hc1 => ?_) (fun hc1 => ?_)
    · try (exfalso; first | omega | (simp only [Bool.false_eq_true, reduceCtorEq] at hc1; done) | (refine absurd hc1 ?_; with_reducible assumption) | (refine absurd ?_ hc1; with_reducible assumption))
      all_goals (
       refine K_seq ?_
       refine K_region ?_
       refine W_load_own Tryd.underlying69 rfl sz69 rfl hp (by first | exact List.mem_cons_self | exact .tail _ (.head _) | exact .tail _ (.tail _ (.head _)) | exact .tail _ (.tail _ (.tail _ (.head _))) | exact .tail _ (.tail _ (.tail _ (.tail _ (.head _)))) | exact .tail _ (.tail _ (.tail _ (.tail _ (.tail _ (.head _)))))) rfl rfl rfl ?_
       refine W_val rfl (inb_of rfl) (R_ext (v := .agg #[.pointer (some ⟨2, 60, none⟩), .pointer (some ⟨bt, 0, none⟩), .int .u64 409]) xElem (xs := [_]) rfl (run_elemV (prt64 _ w) Tryd.underlying64 rfl (hp.cell_old hbp (by simp; exact hne)) (elo64 w) (mkv64 _ w) _)) ?_
       refine W_move rfl rfl ?_
       refine W_ext_alloc (fun b => .agg #[.pointer (some ⟨2, 60, none⟩), .pointer (some ⟨b, 0, none⟩), .int .u64 153]) (.cells #[.int .i64 s, .int .i64 k] 60) hp xValueOf (xs := [_]) rfl ?_ rfl ?_
       · kernel_rfl
       clear hp; intro b23 w hp
       refine W_ext xSet (xs := [_, _]) (v := .tuple #[]) rfl (run_setV (prta60 _ w) (prt60 _ w) rfl (run_load_a (cs := [.int .i64 s, .int .i64 k]) Tryd.underlying60 rfl sz60 rfl (fun j v hj => by rw [Nat.zero_add]; exact hp.cellF List.mem_cons_self hj)) (dir60 w) (run_storeVar (vs := [.int .i64 s, .int .i64 k]) (cur := [.int .i64 0, .int .i64 0]) (hp.own (bt, .cells ([.int .i64 0, .int .i64 0] : List Value).toArray 60) (by simp)) sz60 rfl rfl (by decide) (fz := (0, 0)) (.inl (Nat.zero_le _)) (by simp [Value.oneCell']))) rfl ?_
       replace hp := Hp.setM (A := []) (B := []) (cs := [.int .i64 s, .int .i64 k].toArray) hp
       refine W_nil ?_
       refine N_then_k ?_
       refine K_seq ?_
       refine K_region ?_
       refine W_assign rfl rfl ?_
       refine W_nil ?_
       refine N_then_k ?_
       refine K_ret ?_
       refine N_then_ret ?_
       refine N_block_ret ?_
       refine N_then_ret ?_
       refine N_block_ret ?_
       refine N_done1 (.inr rfl) rfl rfl ?_
       exact ⟨_, rfl, rfl, by first | exact hp.nil | exact hp.drop (List.nil_sublist _)⟩)
    · try (exfalso; first | omega | (simp only [Bool.false_eq_true, reduceCtorEq] at hc1; done) | (refine absurd hc1 ?_; with_reducible assumption) | (refine absurd ?_ hc1; with_reducible assumption))
      all_goals (
       refine K_skip ?_
       refine N_then_k ?_
       refine K_seq ?_
       refine K_seq ?_
       fail "not to be reached")

/-- What package errors holds of the type 'error', in this world. -/
def ErrT (w : World) : Prop := w.cell? ⟨0, 0, none⟩ = some errT
theorem ErrT.lt {w : World} (h : ErrT w) : 0 < w.heap.size := by
  unfold ErrT World.cell? at h
  rcases Nat.lt_or_ge 0 w.heap.size with h1 | h1
  · exact h1
  · simp [Array.getElem?_eq_none h1] at h
theorem ErrT.keep {w0 w : World} {F : Heap} (h : ErrT w0) (hp : Hp w0 [] F w) : ErrT w := hp.cell_old0 h

theorem As_status (w0 : World) (s k : Int) (bt : Nat) (hb0 : bt ≠ 0) (hg : ErrT w0) (hp : Hp w0 [(bt, .cells [.int .i64 0].toArray 47)] [] w0) :
    Calls Tryd.prog 29 [.iface 60 (.agg #[.int .i64 s, .int .i64 k]), .iface 63 (.pointer (some ⟨bt, 0, none⟩))].toArray w0 fun e w' => ∃ v, e = .returned v ∧ v = .bool true ∧ Hp w0 [(bt, .cells [.int .i64 s].toArray 47)] [] w' := by
  refine calls_of_K Tryd.func29 rfl rfl ?_
  have w := w0
  refine K_seq ?_
  refine K_region ?_
  refine W_assign rfl rfl ?_
  refine W_nil ?_
  refine N_then_k ?_
  refine K_seq ?_
  refine K_seq ?_
  refine K_region ?_
  refine W_move rfl rfl ?_
  refine W_val rfl (inb_of rfl) (R_bin (v := .bool false) rfl rfl ?_) ?_
  · kernel_rfl
  refine W_nil ?_
  refine N_then_k ?_
  first
    | refine K_cond_d rfl (fun hc1 => ?_) (fun hc1 => ?_)
    | refine K_cond_n rfl (fun hc1 => ?_) (fun hc1 => ?_)
    | refine K_cond_nb rfl (fun hc1 => ?_) (fun hc1 => ?_)
    | refine K_cond_t rfl (fun hc1 => ?_) (fun hc1 => ?_)
  · try (exfalso; first | omega | (simp only [Bool.false_eq_true, reduceCtorEq] at hc1; done) | (refine absurd hc1 ?_; with_reducible assumption) | (refine absurd ?_ hc1; with_reducible assumption))
    all_goals (
     refine K_seq ?_
     fail "not to be reached")
  · try (exfalso; first | omega | (simp only [Bool.false_eq_true, reduceCtorEq] at hc1; done) | (refine absurd hc1 ?_; with_reducible assumption) | (refine absurd ?_ hc1; with_reducible assumption))
    all_goals (
     refine K_skip ?_
     refine N_then_k ?_
     refine K_seq ?_
     refine K_seq ?_
     refine K_region ?_
     refine W_move rfl rfl ?_
     refine W_val rfl (inb_of rfl) (R_bin (v := .bool false) rfl rfl ?_) ?_
     · kernel_rfl
     refine W_nil ?_
     refine N_then_k ?_
     first
       | refine K_cond_d rfl (fun hc2 => ?_) (fun hc2 => ?_)
       | refine K_cond_n rfl (fun hc2 => ?_) (fun hc2 => ?_)
       | refine K_cond_nb rfl (fun hc2 => ?_) (fun hc2 => ?_)
       | refine K_cond_t rfl (fun hc2 => ?_) (fun hc2 => ?_)
     · try (exfalso; first | omega | (simp only [Bool.false_eq_true, reduceCtorEq] at hc2; done) | (refine absurd hc2 ?_; with_reducible assumption) | (refine absurd ?_ hc2; with_reducible assumption))
       all_goals (
        fail "not to be reached")
     · try (exfalso; first | omega | (simp only [Bool.false_eq_true, reduceCtorEq] at hc2; done) | (refine absurd hc2 ?_; with_reducible assumption) | (refine absurd ?_ hc2; with_reducible assumption))
       all_goals (
        refine K_skip ?_
        refine N_then_k ?_
        refine K_seq ?_
        refine K_region ?_
        refine W_move rfl rfl ?_
        refine W_ext_alloc (fun b => .agg #[.pointer (some ⟨2, 63, none⟩), .pointer (some ⟨b, 0, none⟩), .int .u64 150]) (.cells #[.pointer (some ⟨bt, 0, none⟩)] 63) hp xValueOf (xs := [_]) rfl ?_ rfl ?_
        · kernel_rfl
        clear hp; intro b14 w hp
        refine W_alloc hp zv69 rfl rfl ?_
        clear hp; intro b5 w hp
        first
          | (refine W_storeF (A := []) hp rfl sz69 rfl rfl rfl rfl ?_ ?_ ?_ rfl ?_; (focus first | exact Nat.le_of_ble_eq_true rfl | omega | (simp; omega)); (focus first | exact .inl (Nat.zero_le _) | omega); (focus first | (intro v hv; simp at hv; subst hv; rfl) | (simp [Value.oneCell']; done)))
          | (refine W_storeF (A := [_]) hp rfl sz69 rfl rfl rfl rfl ?_ ?_ ?_ rfl ?_; (focus first | exact Nat.le_of_ble_eq_true rfl | omega | (simp; omega)); (focus first | exact .inl (Nat.zero_le _) | omega); (focus first | (intro v hv; simp at hv; subst hv; rfl) | (simp [Value.oneCell']; done)))
          | (refine W_storeF (A := [_, _]) hp rfl sz69 rfl rfl rfl rfl ?_ ?_ ?_ rfl ?_; (focus first | exact Nat.le_of_ble_eq_true rfl | omega | (simp; omega)); (focus first | exact .inl (Nat.zero_le _) | omega); (focus first | (intro v hv; simp at hv; subst hv; rfl) | (simp [Value.oneCell']; done)))
          | (refine W_storeF (A := [_, _, _]) hp rfl sz69 rfl rfl rfl rfl ?_ ?_ ?_ rfl ?_; (focus first | exact Nat.le_of_ble_eq_true rfl | omega | (simp; omega)); (focus first | exact .inl (Nat.zero_le _) | omega); (focus first | (intro v hv; simp at hv; subst hv; rfl) | (simp [Value.oneCell']; done)))
          | (refine W_storeF (A := [_, _, _, _]) hp rfl sz69 rfl rfl rfl rfl ?_ ?_ ?_ rfl ?_; (focus first | exact Nat.le_of_ble_eq_true rfl | omega | (simp; omega)); (focus first | exact .inl (Nat.zero_le _) | omega); (focus first | (intro v hv; simp at hv; subst hv; rfl) | (simp [Value.oneCell']; done)))
          | (refine W_storeF (A := [_, _, _, _, _]) hp rfl sz69 rfl rfl rfl rfl ?_ ?_ ?_ rfl ?_; (focus first | exact Nat.le_of_ble_eq_true rfl | omega | (simp; omega)); (focus first | exact .inl (Nat.zero_le _) | omega); (focus first | (intro v hv; simp at hv; subst hv; rfl) | (simp [Value.oneCell']; done)))
          | (refine W_storeM (A := []) hp rfl sz69 rfl rfl rfl rfl ?_ ?_ ?_ rfl ?_; (focus first | exact Nat.le_of_ble_eq_true rfl | omega | (simp; omega)); (focus first | exact .inl (Nat.zero_le _) | omega); (focus first | (intro v hv; simp at hv; subst hv; rfl) | (simp [Value.oneCell']; done)))
          | (refine W_storeM (A := [_]) hp rfl sz69 rfl rfl rfl rfl ?_ ?_ ?_ rfl ?_; (focus first | exact Nat.le_of_ble_eq_true rfl | omega | (simp; omega)); (focus first | exact .inl (Nat.zero_le _) | omega); (focus first | (intro v hv; simp at hv; subst hv; rfl) | (simp [Value.oneCell']; done)))
          | (refine W_storeM (A := [_, _]) hp rfl sz69 rfl rfl rfl rfl ?_ ?_ ?_ rfl ?_; (focus first | exact Nat.le_of_ble_eq_true rfl | omega | (simp; omega)); (focus first | exact .inl (Nat.zero_le _) | omega); (focus first | (intro v hv; simp at hv; subst hv; rfl) | (simp [Value.oneCell']; done)))
        clear hp; intro w hp
        simp only [List.nil_append, List.cons_append, List.append_nil, List.take_succ_cons, List.take_zero, List.drop_succ_cons, List.drop_zero, List.take_nil, List.drop_nil, Nat.zero_add, Nat.add_zero, Nat.reduceAdd, Int.reduceToNat, Int.toNat_natCast, Nat.reduceMul, Nat.mul_one, Nat.zero_mul] at hp
        refine W_nil ?_
        refine N_then_k ?_
        refine K_seq ?_
        refine K_region ?_
        refine W_load_own Tryd.underlying69 rfl sz69 rfl hp (by first | exact List.mem_cons_self | exact .tail _ (.head _) | exact .tail _ (.tail _ (.head _)) | exact .tail _ (.tail _ (.tail _ (.head _))) | exact .tail _ (.tail _ (.tail _ (.tail _ (.head _)))) | exact .tail _ (.tail _ (.tail _ (.tail _ (.tail _ (.head _)))))) rfl rfl rfl ?_
        refine W_val rfl (inb_of rfl) (R_ext (v := .iface 79 (.agg #[.pointer (some ⟨2, 63, none⟩)])) xType (xs := [_]) rfl ?_) ?_
        · kernel_rfl
        refine W_assign rfl rfl ?_
        refine W_nil ?_
        refine N_then_k ?_
        refine K_seq ?_
        refine K_seq ?_
        refine K_region ?_
        refine W_move rfl rfl ?_
        refine W_val rfl (inb_of rfl) (R_invoke (v := .int .u8 22) (xs := []) rfl rfl ?_) ?_
        · kernel_rfl
        first
          | (refine W_neq_t rfl rfl ?_ rfl ?_; (focus (omega)))
          | (refine W_neq_f rfl rfl ?_ rfl ?_; (focus (omega)))
          | (refine W_neq rfl rfl rfl ?_)
        refine W_move rfl rfl ?_
        first
          | refine W_guard_lit_t rfl ?_
          | refine W_guard_lit_f rfl ?_
          | refine W_guard_lit_u rfl ?_
          | refine W_guard_split_d rfl rfl rfl (fun hg3 => ?_) (fun hg3 => ?_)
          | refine W_guard_split_n rfl rfl rfl (fun hg3 => ?_) (fun hg3 => ?_)
          | refine W_guard_split_nb rfl rfl rfl (fun hg3 => ?_) (fun hg3 => ?_)
          | refine W_guard_split rfl rfl rfl (fun hg3 => ?_) (fun hg3 => ?_)
        all_goals try (exfalso; first | omega | (simp only [Bool.false_eq_true, reduceCtorEq] at hg3; done) | (refine absurd hg3 ?_; with_reducible assumption) | (refine absurd ?_ hg3; with_reducible assumption))
        all_goals (
         first
           | (iterate 2 refine W_guard_no rfl rfl rfl ?_)
           | (iterate 2 refine W_guard_un rfl rfl ?_)
           | (refine W_guard_yes rfl ?_
              refine W_load_own Tryd.underlying69 rfl sz69 rfl hp (by first | exact List.mem_cons_self | exact .tail _ (.head _) | exact .tail _ (.tail _ (.head _)) | exact .tail _ (.tail _ (.tail _ (.head _))) | exact .tail _ (.tail _ (.tail _ (.tail _ (.head _)))) | exact .tail _ (.tail _ (.tail _ (.tail _ (.tail _ (.head _)))))) rfl rfl rfl ?_
              refine W_guard_yes rfl ?_
              refine W_val rfl (inb_of rfl) (R_ext (v := .bool false) xIsNil (xs := [_]) rfl (run_isNil (prt63 _ w) Tryd.underlying63 rfl (hp.cellF (List.mem_cons_of_mem _ List.mem_cons_self) rfl) _)) ?_)
         first
           | (refine W_pick_t rfl rfl rfl ?_)
           | (refine W_pick_f rfl rfl rfl ?_)
           | (refine W_pick_b rfl rfl rfl rfl ?_)
         refine W_nil ?_
         refine N_then_k ?_
         first
           | refine K_cond_d rfl (fun hc4 => ?_) (fun hc4 => ?_)
           | refine K_cond_n rfl (fun hc4 => ?_) (fun hc4 => ?_)
           | refine K_cond_nb rfl (fun hc4 => ?_) (fun hc4 => ?_)
           | refine K_cond_t rfl (fun hc4 => ?_) (fun hc4 => ?_)
         · try (exfalso; first | omega | (simp only [Bool.false_eq_true, reduceCtorEq] at hc4; done) | (refine absurd hc4 ?_; with_reducible assumption) | (refine absurd ?_ hc4; with_reducible assumption))
           all_goals (
            fail "not to be reached")
         · try (exfalso; first | omega | (simp only [Bool.false_eq_true, reduceCtorEq] at hc4; done) | (refine absurd hc4 ?_; with_reducible assumption) | (refine absurd ?_ hc4; with_reducible assumption))
           all_goals (
            refine K_skip ?_
            refine N_then_k ?_
            refine K_seq ?_
            refine K_region ?_
            refine W_move rfl rfl ?_
            refine W_val rfl (inb_of rfl) (R_invoke (v := .iface 79 (.agg #[.pointer (some ⟨2, 47, none⟩)])) (xs := []) rfl rfl ?_) ?_
            · kernel_rfl
            refine W_assign rfl rfl ?_
            refine W_nil ?_
            refine N_then_k ?_
            refine K_seq ?_
            refine K_seq ?_
            refine K_region ?_
            refine W_move rfl rfl ?_
            refine W_val rfl (inb_of rfl) (R_invoke (v := .int .u8 2) (xs := []) rfl rfl ?_) ?_
            · kernel_rfl
            first
              | (refine W_neq_t rfl rfl ?_ rfl ?_; (focus (omega)))
              | (refine W_neq_f rfl rfl ?_ rfl ?_; (focus (omega)))
              | (refine W_neq rfl rfl rfl ?_)
            refine W_move rfl rfl ?_
            first
              | refine W_guard_lit_t rfl ?_
              | refine W_guard_lit_f rfl ?_
              | refine W_guard_lit_u rfl ?_
              | refine W_guard_split_d rfl rfl rfl (fun hg5 => ?_) (fun hg5 => ?_)
              | refine W_guard_split_n rfl rfl rfl (fun hg5 => ?_) (fun hg5 => ?_)
              | refine W_guard_split_nb rfl rfl rfl (fun hg5 => ?_) (fun hg5 => ?_)
              | refine W_guard_split rfl rfl rfl (fun hg5 => ?_) (fun hg5 => ?_)
            all_goals try (exfalso; first | omega | (simp only [Bool.false_eq_true, reduceCtorEq] at hg5; done) | (refine absurd hg5 ?_; with_reducible assumption) | (refine absurd ?_ hg5; with_reducible assumption))
            all_goals (
             first
               | (iterate 4 refine W_guard_no rfl rfl rfl ?_)
               | (iterate 4 refine W_guard_un rfl rfl ?_)
               | (refine W_guard_yes rfl ?_
                  refine W_move rfl rfl ?_
                  refine W_guard_yes rfl ?_
                  refine W_load_s Tryd.underlying72 rfl rfl (by exact hp.cell_old hg (by simp; exact hb0)) rfl ?_
                  refine W_guard_yes rfl ?_
                  refine W_val rfl (inb_of rfl) (R_invoke (v := .bool true) (xs := [_]) rfl rfl ?_) ?_
                  · kernel_rfl
                  refine W_guard_yes rfl ?_
                  first
                    | (refine W_not_t rfl rfl ?_)
                    | (refine W_not_f rfl rfl ?_)
                    | (refine W_not rfl rfl ?_))
             first
               | (refine W_pick_t rfl rfl rfl ?_)
               | (refine W_pick_f rfl rfl rfl ?_)
               | (refine W_pick_b rfl rfl rfl rfl ?_)
             refine W_nil ?_
             refine N_then_k ?_
             first
               | refine K_cond_d rfl (fun hc6 => ?_) (fun hc6 => ?_)
               | refine K_cond_n rfl (fun hc6 => ?_) (fun hc6 => ?_)
               | refine K_cond_nb rfl (fun hc6 => ?_) (fun hc6 => ?_)
               | refine K_cond_t rfl (fun hc6 => ?_) (fun hc6 => ?_)
             · try (exfalso; first | omega | (simp only [Bool.false_eq_true, reduceCtorEq] at hc6; done) | (refine absurd hc6 ?_; with_reducible assumption) | (refine absurd ?_ hc6; with_reducible assumption))
               all_goals (
                fail "not to be reached")
             · try (exfalso; first | omega | (simp only [Bool.false_eq_true, reduceCtorEq] at hc6; done) | (refine absurd hc6 ?_; with_reducible assumption) | (refine absurd ?_ hc6; with_reducible assumption))
               all_goals (
                refine K_skip ?_
                refine N_then_k ?_
                refine K_seq ?_
                refine K_region ?_
                refine W_move rfl rfl ?_
                refine W_move rfl rfl ?_
                refine W_load_own Tryd.underlying69 rfl sz69 rfl hp (by first | exact List.mem_cons_self | exact .tail _ (.head _) | exact .tail _ (.tail _ (.head _)) | exact .tail _ (.tail _ (.tail _ (.head _))) | exact .tail _ (.tail _ (.tail _ (.tail _ (.head _)))) | exact .tail _ (.tail _ (.tail _ (.tail _ (.tail _ (.head _)))))) rfl rfl rfl ?_
                refine W_move rfl rfl ?_
                refine W_call rfl rfl rfl (CallV.static go36 (as_status w s k bt b14 ?_ (hp.cellF (List.mem_cons_of_mem _ List.mem_cons_self) rfl) (hp.base (fun p hp => by simp at hp; simp [hp]) (by simp)))) (fun v w2 hr => ?_)
                · intro e
                  have := hp.nodup
                  simp [e] at this
                obtain ⟨rfl, hr⟩ := hr
                replace hp := Hp.call_upd (M' := [(bt, .cells [.int .i64 s].toArray 47)]) (F1 := []) (F1' := []) (F2 := _) (G := []) hp (by simpa using hr) rfl rfl
                simp only [List.nil_append] at hp
                clear hr; revert hp; generalize w2 = w; intro hp
                refine W_assign rfl rfl ?_
                refine W_nil ?_
                refine N_then_k ?_
                refine K_ret ?_
                refine N_done1 (.inr rfl) rfl rfl ?_
                exact ⟨_, rfl, rfl, hp.nil⟩))))))

theorem fault_status (w0 : World) (hg : ErrT w0) (s k : Int) : PureAt Tryd.prog 24 [.iface 60 (.agg #[.int .i64 s, .int .i64 k])] (.tuple #[.int .i64 s, .bool true]) w0 := by
  refine PureAt.intro go24 Tryd.func24 rfl rfl fun hp => ?_
  have w := w0
  refine K_seq ?_
  refine K_region ?_
  refine W_assign rfl rfl ?_
  refine W_assign rfl rfl ?_
  refine W_nil ?_
  refine N_then_k ?_
  refine K_seq ?_
  refine K_region ?_
  refine W_alloc hp zv47 rfl rfl ?_
  clear hp; intro b4 w hp
  refine W_nil ?_
  refine N_then_k ?_
  refine K_seq ?_
  refine K_region ?_
  refine W_move rfl rfl ?_
  refine W_mkiface Tryd.underlying63 rfl rfl rfl ?_
  have hlt0 := ErrT.lt hg
  have hfr := hp.fresh (b4, _) List.mem_cons_self
  simp only at hlt0 hfr
  refine W_call rfl rfl rfl (CallV.static go29 (As_status w s k b4 (by omega) (hp.cell_old0 hg) (hp.base (fun p hp => by simp at hp; simp [hp]) (by simp)))) (fun v w2 hr => ?_)
  obtain ⟨rfl, hr⟩ := hr
  replace hp := Hp.call_setF (A := []) (B := []) hp hr
  simp only [List.nil_append] at hp
  clear hr; revert hp; generalize w2 = w; intro hp
  refine W_assign rfl rfl ?_
  refine W_nil ?_
  refine N_then_k ?_
  refine K_seq ?_
  refine K_region ?_
  refine W_load_s Tryd.underlying47 rfl rfl (by first | exact hp.cellF (by first | exact List.mem_cons_self | exact .tail _ (.head _) | exact .tail _ (.tail _ (.head _)) | exact .tail _ (.tail _ (.tail _ (.head _))) | exact .tail _ (.tail _ (.tail _ (.tail _ (.head _)))) | exact .tail _ (.tail _ (.tail _ (.tail _ (.tail _ (.head _)))))) rfl | exact hp.cellM (by first | exact List.mem_cons_self | exact .tail _ (.head _) | exact .tail _ (.tail _ (.head _)) | exact .tail _ (.tail _ (.tail _ (.head _))) | exact .tail _ (.tail _ (.tail _ (.tail _ (.head _)))) | exact .tail _ (.tail _ (.tail _ (.tail _ (.tail _ (.head _)))))) rfl | exact hp.cell_old0 ‹_› | (refine hp.cell_old0 ?_; assumption)) rfl ?_
  refine W_move rfl rfl ?_
  refine W_assign rfl rfl ?_
  refine W_assign rfl rfl ?_
  refine W_nil ?_
  refine N_then_k ?_
  refine K_ret ?_
  refine N_done2 (.inr rfl) rfl rfl rfl ?_
  exact ⟨_, rfl, rfl, hp.nil⟩

theorem As_at (w0 : World) (s k : Int) (bt : Nat) (hb0 : bt ≠ 0) (hg : ErrT w0) (hp : Hp w0 [(bt, .cells [.int .i64 0, .int .i64 0].toArray 60)] [] w0) :
    Calls Tryd.prog 29 [.iface 60 (.agg #[.int .i64 s, .int .i64 k]), .iface 64 (.pointer (some ⟨bt, 0, none⟩))].toArray w0 fun e w' => ∃ v, e = .returned v ∧ v = .bool true ∧ Hp w0 [(bt, .cells [.int .i64 s, .int .i64 k].toArray 60)] [] w' := by
  refine calls_of_K Tryd.func29 rfl rfl ?_
  have w := w0
  refine K_seq ?_
  refine K_region ?_
  refine W_assign rfl rfl ?_
  refine W_nil ?_
  refine N_then_k ?_
  refine K_seq ?_
  refine K_seq ?_
  refine K_region ?_
  refine W_move rfl rfl ?_
  refine W_val rfl (inb_of rfl) (R_bin (v := .bool false) rfl rfl ?_) ?_
  · kernel_rfl
  refine W_nil ?_
  refine N_then_k ?_
  first
    | refine K_cond_d rfl (fun hc1 => ?_) (fun hc1 => ?_)
    | refine K_cond_n rfl (fun hc1 => ?_) (fun hc1 => ?_)
    | refine K_cond_nb rfl (fun hc1 => ?_) (fun hc1 => ?_)
    | refine K_cond_t rfl (fun hc1 => ?_) (fun hc1 => ?_)
  · try (exfalso; first | omega | (simp only [Bool.false_eq_true, reduceCtorEq] at hc1; done) | (refine absurd hc1 ?_; with_reducible assumption) | (refine absurd ?_ hc1; with_reducible assumption))
    all_goals (
     refine K_seq ?_
     fail "not to be reached")
  · try (exfalso; first | omega | (simp only [Bool.false_eq_true, reduceCtorEq] at hc1; done) | (refine absurd hc1 ?_; with_reducible assumption) | (refine absurd ?_ hc1; with_reducible assumption))
    all_goals (
     refine K_skip ?_
     refine N_then_k ?_
     refine K_seq ?_
     refine K_seq ?_
     refine K_region ?_
     refine W_move rfl rfl ?_
     refine W_val rfl (inb_of rfl) (R_bin (v := .bool false) rfl rfl ?_) ?_
     · kernel_rfl
     refine W_nil ?_
     refine N_then_k ?_
     first
       | refine K_cond_d rfl (fun hc2 => ?_) (fun hc2 => ?_)
       | refine K_cond_n rfl (fun hc2 => ?_) (fun hc2 => ?_)
       | refine K_cond_nb rfl (fun hc2 => ?_) (fun hc2 => ?_)
       | refine K_cond_t rfl (fun hc2 => ?_) (fun hc2 => ?_)
     · try (exfalso; first | omega | (simp only [Bool.false_eq_true, reduceCtorEq] at hc2; done) | (refine absurd hc2 ?_; with_reducible assumption) | (refine absurd ?_ hc2; with_reducible assumption))
       all_goals (
        fail "not to be reached")
     · try (exfalso; first | omega | (simp only [Bool.false_eq_true, reduceCtorEq] at hc2; done) | (refine absurd hc2 ?_; with_reducible assumption) | (refine absurd ?_ hc2; with_reducible assumption))
       all_goals (
        refine K_skip ?_
        refine N_then_k ?_
        refine K_seq ?_
        refine K_region ?_
        refine W_move rfl rfl ?_
        refine W_ext_alloc (fun b => .agg #[.pointer (some ⟨2, 64, none⟩), .pointer (some ⟨b, 0, none⟩), .int .u64 150]) (.cells #[.pointer (some ⟨bt, 0, none⟩)] 64) hp xValueOf (xs := [_]) rfl ?_ rfl ?_
        · kernel_rfl
        clear hp; intro b14 w hp
        refine W_alloc hp zv69 rfl rfl ?_
        clear hp; intro b5 w hp
        first
          | (refine W_storeF (A := []) hp rfl sz69 rfl rfl rfl rfl ?_ ?_ ?_ rfl ?_; (focus first | exact Nat.le_of_ble_eq_true rfl | omega | (simp; omega)); (focus first | exact .inl (Nat.zero_le _) | omega); (focus first | (intro v hv; simp at hv; subst hv; rfl) | (simp [Value.oneCell']; done)))
          | (refine W_storeF (A := [_]) hp rfl sz69 rfl rfl rfl rfl ?_ ?_ ?_ rfl ?_; (focus first | exact Nat.le_of_ble_eq_true rfl | omega | (simp; omega)); (focus first | exact .inl (Nat.zero_le _) | omega); (focus first | (intro v hv; simp at hv; subst hv; rfl) | (simp [Value.oneCell']; done)))
          | (refine W_storeF (A := [_, _]) hp rfl sz69 rfl rfl rfl rfl ?_ ?_ ?_ rfl ?_; (focus first | exact Nat.le_of_ble_eq_true rfl | omega | (simp; omega)); (focus first | exact .inl (Nat.zero_le _) | omega); (focus first | (intro v hv; simp at hv; subst hv; rfl) | (simp [Value.oneCell']; done)))
          | (refine W_storeF (A := [_, _, _]) hp rfl sz69 rfl rfl rfl rfl ?_ ?_ ?_ rfl ?_; (focus first | exact Nat.le_of_ble_eq_true rfl | omega | (simp; omega)); (focus first | exact .inl (Nat.zero_le _) | omega); (focus first | (intro v hv; simp at hv; subst hv; rfl) | (simp [Value.oneCell']; done)))
          | (refine W_storeF (A := [_, _, _, _]) hp rfl sz69 rfl rfl rfl rfl ?_ ?_ ?_ rfl ?_; (focus first | exact Nat.le_of_ble_eq_true rfl | omega | (simp; omega)); (focus first | exact .inl (Nat.zero_le _) | omega); (focus first | (intro v hv; simp at hv; subst hv; rfl) | (simp [Value.oneCell']; done)))
          | (refine W_storeF (A := [_, _, _, _, _]) hp rfl sz69 rfl rfl rfl rfl ?_ ?_ ?_ rfl ?_; (focus first | exact Nat.le_of_ble_eq_true rfl | omega | (simp; omega)); (focus first | exact .inl (Nat.zero_le _) | omega); (focus first | (intro v hv; simp at hv; subst hv; rfl) | (simp [Value.oneCell']; done)))
          | (refine W_storeM (A := []) hp rfl sz69 rfl rfl rfl rfl ?_ ?_ ?_ rfl ?_; (focus first | exact Nat.le_of_ble_eq_true rfl | omega | (simp; omega)); (focus first | exact .inl (Nat.zero_le _) | omega); (focus first | (intro v hv; simp at hv; subst hv; rfl) | (simp [Value.oneCell']; done)))
          | (refine W_storeM (A := [_]) hp rfl sz69 rfl rfl rfl rfl ?_ ?_ ?_ rfl ?_; (focus first | exact Nat.le_of_ble_eq_true rfl | omega | (simp; omega)); (focus first | exact .inl (Nat.zero_le _) | omega); (focus first | (intro v hv; simp at hv; subst hv; rfl) | (simp [Value.oneCell']; done)))
          | (refine W_storeM (A := [_, _]) hp rfl sz69 rfl rfl rfl rfl ?_ ?_ ?_ rfl ?_; (focus first | exact Nat.le_of_ble_eq_true rfl | omega | (simp; omega)); (focus first | exact .inl (Nat.zero_le _) | omega); (focus first | (intro v hv; simp at hv; subst hv; rfl) | (simp [Value.oneCell']; done)))
        clear hp; intro w hp
        simp only [List.nil_append, List.cons_append, List.append_nil, List.take_succ_cons, List.take_zero, List.drop_succ_cons, List.drop_zero, List.take_nil, List.drop_nil, Nat.zero_add, Nat.add_zero, Nat.reduceAdd, Int.reduceToNat, Int.toNat_natCast, Nat.reduceMul, Nat.mul_one, Nat.zero_mul] at hp
        refine W_nil ?_
        refine N_then_k ?_
        refine K_seq ?_
        refine K_region ?_
        refine W_load_own Tryd.underlying69 rfl sz69 rfl hp (by first | exact List.mem_cons_self | exact .tail _ (.head _) | exact .tail _ (.tail _ (.head _)) | exact .tail _ (.tail _ (.tail _ (.head _))) | exact .tail _ (.tail _ (.tail _ (.tail _ (.head _)))) | exact .tail _ (.tail _ (.tail _ (.tail _ (.tail _ (.head _)))))) rfl rfl rfl ?_
        refine W_val rfl (inb_of rfl) (R_ext (v := .iface 79 (.agg #[.pointer (some ⟨2, 64, none⟩)])) xType (xs := [_]) rfl ?_) ?_
        · kernel_rfl
        refine W_assign rfl rfl ?_
        refine W_nil ?_
        refine N_then_k ?_
        refine K_seq ?_
        refine K_seq ?_
        refine K_region ?_
        refine W_move rfl rfl ?_
        refine W_val rfl (inb_of rfl) (R_invoke (v := .int .u8 22) (xs := []) rfl rfl ?_) ?_
        · kernel_rfl
        first
          | (refine W_neq_t rfl rfl ?_ rfl ?_; (focus (omega)))
          | (refine W_neq_f rfl rfl ?_ rfl ?_; (focus (omega)))
          | (refine W_neq rfl rfl rfl ?_)
        refine W_move rfl rfl ?_
        first
          | refine W_guard_lit_t rfl ?_
          | refine W_guard_lit_f rfl ?_
          | refine W_guard_lit_u rfl ?_
          | refine W_guard_split_d rfl rfl rfl (fun hg3 => ?_) (fun hg3 => ?_)
          | refine W_guard_split_n rfl rfl rfl (fun hg3 => ?_) (fun hg3 => ?_)
          | refine W_guard_split_nb rfl rfl rfl (fun hg3 => ?_) (fun hg3 => ?_)
          | refine W_guard_split rfl rfl rfl (fun hg3 => ?_) (fun hg3 => ?_)
        all_goals try (exfalso; first | omega | (simp only [Bool.false_eq_true, reduceCtorEq] at hg3; done) | (refine absurd hg3 ?_; with_reducible assumption) | (refine absurd ?_ hg3; with_reducible assumption))
        all_goals (
         first
           | (iterate 2 refine W_guard_no rfl rfl rfl ?_)
           | (iterate 2 refine W_guard_un rfl rfl ?_)
           | (refine W_guard_yes rfl ?_
              refine W_load_own Tryd.underlying69 rfl sz69 rfl hp (by first | exact List.mem_cons_self | exact .tail _ (.head _) | exact .tail _ (.tail _ (.head _)) | exact .tail _ (.tail _ (.tail _ (.head _))) | exact .tail _ (.tail _ (.tail _ (.tail _ (.head _)))) | exact .tail _ (.tail _ (.tail _ (.tail _ (.tail _ (.head _)))))) rfl rfl rfl ?_
              refine W_guard_yes rfl ?_
              refine W_val rfl (inb_of rfl) (R_ext (v := .bool false) xIsNil (xs := [_]) rfl (run_isNil (prt64 _ w) Tryd.underlying64 rfl (hp.cellF (List.mem_cons_of_mem _ List.mem_cons_self) rfl) _)) ?_)
         first
           | (refine W_pick_t rfl rfl rfl ?_)
           | (refine W_pick_f rfl rfl rfl ?_)
           | (refine W_pick_b rfl rfl rfl rfl ?_)
         refine W_nil ?_
         refine N_then_k ?_
         first
           | refine K_cond_d rfl (fun hc4 => ?_) (fun hc4 => ?_)
           | refine K_cond_n rfl (fun hc4 => ?_) (fun hc4 => ?_)
           | refine K_cond_nb rfl (fun hc4 => ?_) (fun hc4 => ?_)
           | refine K_cond_t rfl (fun hc4 => ?_) (fun hc4 => ?_)
         · try (exfalso; first | omega | (simp only [Bool.false_eq_true, reduceCtorEq] at hc4; done) | (refine absurd hc4 ?_; with_reducible assumption) | (refine absurd ?_ hc4; with_reducible assumption))
           all_goals (
            fail "not to be reached")
         · try (exfalso; first | omega | (simp only [Bool.false_eq_true, reduceCtorEq] at hc4; done) | (refine absurd hc4 ?_; with_reducible assumption) | (refine absurd ?_ hc4; with_reducible assumption))
           all_goals (
            refine K_skip ?_
            refine N_then_k ?_
            refine K_seq ?_
            refine K_region ?_
            refine W_move rfl rfl ?_
            refine W_val rfl (inb_of rfl) (R_invoke (v := .iface 79 (.agg #[.pointer (some ⟨2, 60, none⟩)])) (xs := []) rfl rfl ?_) ?_
            · kernel_rfl
            refine W_assign rfl rfl ?_
            refine W_nil ?_
            refine N_then_k ?_
            refine K_seq ?_
            refine K_seq ?_
            refine K_region ?_
            refine W_move rfl rfl ?_
            refine W_val rfl (inb_of rfl) (R_invoke (v := .int .u8 25) (xs := []) rfl rfl ?_) ?_
            · kernel_rfl
            first
              | (refine W_neq_t rfl rfl ?_ rfl ?_; (focus (omega)))
              | (refine W_neq_f rfl rfl ?_ rfl ?_; (focus (omega)))
              | (refine W_neq rfl rfl rfl ?_)
            refine W_move rfl rfl ?_
            first
              | refine W_guard_lit_t rfl ?_
              | refine W_guard_lit_f rfl ?_
              | refine W_guard_lit_u rfl ?_
              | refine W_guard_split_d rfl rfl rfl (fun hg5 => ?_) (fun hg5 => ?_)
              | refine W_guard_split_n rfl rfl rfl (fun hg5 => ?_) (fun hg5 => ?_)
              | refine W_guard_split_nb rfl rfl rfl (fun hg5 => ?_) (fun hg5 => ?_)
              | refine W_guard_split rfl rfl rfl (fun hg5 => ?_) (fun hg5 => ?_)
            all_goals try (exfalso; first | omega | (simp only [Bool.false_eq_true, reduceCtorEq] at hg5; done) | (refine absurd hg5 ?_; with_reducible assumption) | (refine absurd ?_ hg5; with_reducible assumption))
            all_goals (
             first
               | (iterate 4 refine W_guard_no rfl rfl rfl ?_)
               | (iterate 4 refine W_guard_un rfl rfl ?_)
               | (refine W_guard_yes rfl ?_
                  refine W_move rfl rfl ?_
                  refine W_guard_yes rfl ?_
                  refine W_load_s Tryd.underlying72 rfl rfl (by exact hp.cell_old hg (by simp; exact hb0)) rfl ?_
                  refine W_guard_yes rfl ?_
                  refine W_val rfl (inb_of rfl) (R_invoke (v := .bool true) (xs := [_]) rfl rfl ?_) ?_
                  · kernel_rfl
                  refine W_guard_yes rfl ?_
                  first
                    | (refine W_not_t rfl rfl ?_)
                    | (refine W_not_f rfl rfl ?_)
                    | (refine W_not rfl rfl ?_))
             first
               | (refine W_pick_t rfl rfl rfl ?_)
               | (refine W_pick_f rfl rfl rfl ?_)
               | (refine W_pick_b rfl rfl rfl rfl ?_)
             refine W_nil ?_
             refine N_then_k ?_
             first
               | refine K_cond_d rfl (fun hc6 => ?_) (fun hc6 => ?_)
               | refine K_cond_n rfl (fun hc6 => ?_) (fun hc6 => ?_)
               | refine K_cond_nb rfl (fun hc6 => ?_) (fun hc6 => ?_)
               | refine K_cond_t rfl (fun hc6 => ?_) (fun hc6 => ?_)
             · try (exfalso; first | omega | (simp only [Bool.false_eq_true, reduceCtorEq] at hc6; done) | (refine absurd hc6 ?_; with_reducible assumption) | (refine absurd ?_ hc6; with_reducible assumption))
               all_goals (
                fail "not to be reached")
             · try (exfalso; first | omega | (simp only [Bool.false_eq_true, reduceCtorEq] at hc6; done) | (refine absurd hc6 ?_; with_reducible assumption) | (refine absurd ?_ hc6; with_reducible assumption))
               all_goals (
                refine K_skip ?_
                refine N_then_k ?_
                refine K_seq ?_
                refine K_region ?_
                refine W_move rfl rfl ?_
                refine W_move rfl rfl ?_
                refine W_load_own Tryd.underlying69 rfl sz69 rfl hp (by first | exact List.mem_cons_self | exact .tail _ (.head _) | exact .tail _ (.tail _ (.head _)) | exact .tail _ (.tail _ (.tail _ (.head _))) | exact .tail _ (.tail _ (.tail _ (.tail _ (.head _)))) | exact .tail _ (.tail _ (.tail _ (.tail _ (.tail _ (.head _)))))) rfl rfl rfl ?_
                refine W_move rfl rfl ?_
                refine W_call rfl rfl rfl (CallV.static go36 (as_at w s k bt b14 ?_ (hp.cellF (List.mem_cons_of_mem _ List.mem_cons_self) rfl) (hp.base (fun p hp => by simp at hp; simp [hp]) (by simp)))) (fun v w2 hr => ?_)
                · intro e
                  have := hp.nodup
                  simp [e] at this
                obtain ⟨rfl, hr⟩ := hr
                replace hp := Hp.call_upd (M' := [(bt, .cells [.int .i64 s, .int .i64 k].toArray 60)]) (F1 := []) (F1' := []) (F2 := _) (G := []) hp (by simpa using hr) rfl rfl
                simp only [List.nil_append] at hp
                clear hr; revert hp; generalize w2 = w; intro hp
                refine W_assign rfl rfl ?_
                refine W_nil ?_
                refine N_then_k ?_
                refine K_ret ?_
                refine N_done1 (.inr rfl) rfl rfl ?_
                exact ⟨_, rfl, rfl, hp.nil⟩))))))

theorem fault_at (w0 : World) (hg : ErrT w0) (s k : Int) : PureAt Tryd.prog 25 [.iface 60 (.agg #[.int .i64 s, .int .i64 k])] (.tuple #[.int .i64 k, .bool true]) w0 := by
  refine PureAt.intro go25 Tryd.func25 rfl rfl fun hp => ?_
  have w := w0
  refine K_seq ?_
  refine K_region ?_
  refine W_assign rfl rfl ?_
  refine W_assign rfl rfl ?_
  refine W_nil ?_
  refine N_then_k ?_
  refine K_seq ?_
  refine K_region ?_
  refine W_alloc hp zv60 rfl rfl ?_
  clear hp; intro b4 w hp
  refine W_nil ?_
  refine N_then_k ?_
  refine K_seq ?_
  refine K_region ?_
  refine W_move rfl rfl ?_
  refine W_mkiface Tryd.underlying64 rfl rfl rfl ?_
  have hlt0 := ErrT.lt hg
  have hfr := hp.fresh (b4, _) List.mem_cons_self
  simp only at hlt0 hfr
  refine W_call rfl rfl rfl (CallV.static go29 (As_at w s k b4 (by omega) (hp.cell_old0 hg) (hp.base (fun p hp => by simp at hp; simp [hp]) (by simp)))) (fun v w2 hr => ?_)
  obtain ⟨rfl, hr⟩ := hr
  replace hp := Hp.call_setF (A := []) (B := []) hp hr
  simp only [List.nil_append] at hp
  clear hr; revert hp; generalize w2 = w; intro hp
  refine W_assign rfl rfl ?_
  refine W_nil ?_
  refine N_then_k ?_
  refine K_seq ?_
  refine K_region ?_
  refine W_fieldAddr Tryd.underlying60 rfl sz3 rfl rfl ?_
  refine W_load_s Tryd.underlying3 rfl rfl (by first | exact hp.cellF (by first | exact List.mem_cons_self | exact .tail _ (.head _) | exact .tail _ (.tail _ (.head _)) | exact .tail _ (.tail _ (.tail _ (.head _))) | exact .tail _ (.tail _ (.tail _ (.tail _ (.head _)))) | exact .tail _ (.tail _ (.tail _ (.tail _ (.tail _ (.head _)))))) rfl | exact hp.cellM (by first | exact List.mem_cons_self | exact .tail _ (.head _) | exact .tail _ (.tail _ (.head _)) | exact .tail _ (.tail _ (.tail _ (.head _))) | exact .tail _ (.tail _ (.tail _ (.tail _ (.head _)))) | exact .tail _ (.tail _ (.tail _ (.tail _ (.tail _ (.head _)))))) rfl | exact hp.cell_old0 ‹_› | (refine hp.cell_old0 ?_; assumption)) rfl ?_
  refine W_move rfl rfl ?_
  refine W_assign rfl rfl ?_
  refine W_assign rfl rfl ?_
  refine W_nil ?_
  refine N_then_k ?_
  refine K_ret ?_
  refine N_done2 (.inr rfl) rfl rfl rfl ?_
  exact ⟨_, rfl, rfl, hp.nil⟩

theorem fault_new (s k : Int) : PureF Tryd.prog 17 [.int .i64 s, .int .i64 k] (.iface 60 (.agg #[.int .i64 s, .int .i64 k])) := by
  refine PureF.intro go17 Tryd.func17 rfl rfl fun w0 hp => ?_
  refine K_seq ?_
  refine K_region ?_
  refine W_assign rfl rfl ?_
  refine W_nil ?_
  refine N_then_k ?_
  refine K_seq ?_
  refine K_region ?_
  refine W_move rfl rfl ?_
  refine W_move rfl rfl ?_
  refine W_build2 rfl rfl  (fun v0 v1 => [v0, v1]) (by kernel_rfl) rfl ?_
  refine W_mkiface Tryd.underlying60 rfl rfl rfl ?_
  refine W_assign rfl rfl ?_
  refine W_nil ?_
  refine N_then_k ?_
  refine K_ret ?_
  refine N_done1 (.inr rfl) rfl rfl ?_
  exact ⟨_, rfl, rfl, hp.nil⟩

def fltV (s k : Int) : Value := .iface 60 (.agg #[.int .i64 s, .int .i64 k])

end Go.Proofs.YtgnnnlblkdfecaaDoor
