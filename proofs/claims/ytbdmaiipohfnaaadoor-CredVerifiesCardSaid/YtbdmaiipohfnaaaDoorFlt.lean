/-
  fault.New.
-/
import Derived.Test.YtbdmaiipohfnaaaDoorSxT
import Derived.Test.YtbdmaiipohfnaaaDoorSxRow
namespace Go.Proofs.YtbdmaiipohfnaaaDoor
open Go.Sx Go.RowKit
set_option linter.unusedVariables false
set_option linter.unusedSimpArgs false
set_option maxRecDepth 100000

theorem fault_new (s k : Int) : PureF Tryd.prog 34 [.int .i64 s, .int .i64 k] (.iface 107 (.agg #[.int .i64 s, .int .i64 k])) := by
  refine PureF.intro go34 Tryd.func34 rfl rfl fun w0 hp => ?_
  refine K_seq ?_
  refine K_region ?_
  refine W_assign rfl rfl ?_
  refine W_nil ?_
  refine N_then_k ?_
  refine K_seq ?_
  refine K_region ?_
  refine W_move rfl rfl ?_
  refine W_move rfl rfl ?_
  refine W_build2 rfl rfl  (fun v0 v1 => [v0, v1]) (by kernel_rfl) rfl ?_
  refine W_mkiface Tryd.underlying107 rfl rfl rfl ?_
  refine W_assign rfl rfl ?_
  refine W_nil ?_
  refine N_then_k ?_
  refine K_ret ?_
  refine N_done1 (.inr rfl) rfl rfl ?_
  exact ⟨_, rfl, rfl, hp.nil⟩

def fltV (s k : Int) : Value := .iface 107 (.agg #[.int .i64 s, .int .i64 k])

end Go.Proofs.YtbdmaiipohfnaaaDoor
