/-
  The reference implementation of package digest, walked: salted passwords.
-/
import Derived.Test.YtbdmaiipohfnaaaDoorShaU
import Derived.Test.YtbdmaiipohfnaaaDoorShaK
import Derived.Test.YtbdmaiipohfnaaaDoorShaY
namespace Go.Proofs.YtbdmaiipohfnaaaDoor
open Go.Sx Go.RowKit
set_option linter.unusedVariables false
set_option linter.unusedSimpArgs false
set_option maxRecDepth 100000

theorem rsalted_spec (w0 : World) (a b c : List UInt8) (hla : a.length ≤ 1000) (hlb : b.length ≤ 1000) (hlc : c.length ≤ 1000) : PureAt Tryd.prog 30 [.string ⟨a.toArray⟩, .string ⟨b.toArray⟩, .string ⟨c.toArray⟩] (.string ⟨(hexL (sumF (saltB a b c))).toArray⟩) w0 := by
  have hsl := saltB_length a b c
  refine PureAt.intro go30 Tryd.func30 rfl rfl fun hp => ?_
  refine (fun (hk : ∀ w, Hp w0 [] [] w → K _ _ _ _ _ w) => hk w0 hp) fun w hp => ?_
  refine K_seq ?_
  refine K_region ?_
  refine W_assign rfl rfl ?_
  refine W_nil ?_
  refine N_then_k ?_
  refine K_seq ?_
  refine K_region ?_
  refine W_move rfl rfl ?_
  refine W_sadd rfl rfl ?_ rfl ?_
  (focus (first | omega | (simp only [List.length_append, List.length_cons, List.length_nil, List.length_drop, List.length_take] at *; omega) | (simp; omega)))
  refine W_move rfl rfl ?_
  refine W_sadd rfl rfl ?_ rfl ?_
  (focus (first | omega | (simp only [List.length_append, List.length_cons, List.length_nil, List.length_drop, List.length_take] at *; omega) | (simp; omega)))
  refine W_sadd rfl rfl ?_ rfl ?_
  (focus (first | omega | (simp only [List.length_append, List.length_cons, List.length_nil, List.length_drop, List.length_take] at *; omega) | (simp; omega)))
  refine W_move rfl rfl ?_
  refine W_sadd rfl rfl ?_ rfl ?_
  (focus (first | omega | (simp only [List.length_append, List.length_cons, List.length_nil, List.length_drop, List.length_take] at *; omega) | (simp; omega)))
  refine W_bcall hp rfl ((table_spec w)) rfl ?_
  clear hp; intro v14 G14 w r14 hp
  obtain ⟨At, ct, rfl⟩ := r14.form
  refine W_acall hp rfl ((rsum_spec w (saltB a b c) (by omega) At ct (OS.rdm (show OS _ _ _ _ _ _ from r14) (w := w) (fun p hq => hp.own p (by simp [hq]))))) rfl ?_
  clear hp; intro w hp
  refine W_acall hp rfl ((rhexs_spec w (sumF (saltB a b c)) rfl)) rfl ?_
  clear hp; intro w hp
  refine W_assign rfl rfl ?_
  refine W_nil ?_
  refine N_then_k ?_
  refine K_ret ?_
  refine N_done1 (.inr rfl) rfl rfl ?_
  exact ⟨_, rfl, rfl, hp.nil⟩

end Go.Proofs.YtbdmaiipohfnaaaDoor
