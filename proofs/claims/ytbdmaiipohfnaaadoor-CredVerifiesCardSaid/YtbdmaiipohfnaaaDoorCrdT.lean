/-
  The texts of credentials, walked.
-/
import Derived.Test.YtbdmaiipohfnaaaDoorCrdW
namespace Go.Proofs.YtbdmaiipohfnaaaDoor
open Go.Sx Go.RowKit
set_option linter.unusedVariables false
set_option linter.unusedSimpArgs false
set_option maxRecDepth 100000

def ctextF (a b : List UInt8) : List UInt8 := ([66, 97, 115, 105, 99, 32] ++ enc64 (a ++ [58] ++ b))

theorem ctext_spec (w0 : World) (a b : List UInt8) (ha : a.length ≤ 1000) (hb : b.length ≤ 1000) : PureAt Tryd.prog 9 [.string ⟨a.toArray⟩, .string ⟨b.toArray⟩] (.string ⟨(ctextF a b).toArray⟩) w0 := by
  have hcl : (a ++ [58] ++ b).length = a.length + b.length + 1 := by simp; omega
  have hel := enc64_length (a ++ [58] ++ b)
  refine PureAt.intro go9 Tryd.func9 rfl rfl fun hp => ?_
  refine (fun (hk : ∀ w, Hp w0 [] [] w → K _ _ _ _ _ w) => hk w0 hp) fun w hp => ?_
  refine K_seq ?_
  refine K_region ?_
  refine W_assign rfl rfl ?_
  refine W_nil ?_
  refine N_then_k ?_
  refine K_seq ?_
  refine K_region ?_
  refine W_move rfl rfl ?_
  refine W_sadd rfl rfl ?_ rfl ?_
  (focus (first | omega | (simp only [List.length_append, List.length_cons, List.length_nil, List.length_drop, List.length_take] at *; omega) | (simp; omega)))
  refine W_move rfl rfl ?_
  refine W_sadd rfl rfl ?_ rfl ?_
  (focus (first | omega | (simp only [List.length_append, List.length_cons, List.length_nil, List.length_drop, List.length_take] at *; omega) | (simp; omega)))
  refine W_conv_sb (a := a ++ [58] ++ b) hp Tryd.underlying9 Tryd.underlying42 Tryd.underlying5 rfl (by omega) rfl ?_
  clear hp; intro bc cp zs fz w hzs hcm hfz hp
  refine W_acall hp rfl ((encode_spec w (a ++ [58] ++ b) _ _ (Rd.own hp List.mem_cons_self (List.prefix_append _ _)) (by omega) (by omega))) rfl ?_
  clear hp; intro w hp
  refine W_sadd rfl rfl ?_ rfl ?_
  (focus (first | omega | (simp only [List.length_append, List.length_cons, List.length_nil, List.length_drop, List.length_take] at *; omega) | (simp; omega)))
  refine W_assign rfl rfl ?_
  refine W_nil ?_
  refine N_then_k ?_
  refine K_ret ?_
  refine N_done1 (.inr rfl) rfl rfl ?_
  exact ⟨_, rfl, rfl, hp.nil⟩

end Go.Proofs.YtbdmaiipohfnaaaDoor
