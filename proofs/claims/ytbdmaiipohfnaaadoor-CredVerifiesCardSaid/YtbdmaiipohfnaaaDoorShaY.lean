/-
  Salted passwords, walked.
-/
import Derived.Test.YtbdmaiipohfnaaaDoorShaX
import Derived.Test.YtbdmaiipohfnaaaDoorJoi
namespace Go.Proofs.YtbdmaiipohfnaaaDoor
open Go.Sx Go.RowKit
set_option linter.unusedVariables false
set_option linter.unusedSimpArgs false
set_option maxRecDepth 100000

theorem Roots.keep {w0 w : World} {F : Heap} (h : Roots w0) (hp : Hp w0 [] F w) : Roots w := fun i hi => hp.cell_old0 (h i hi)
theorem right_bad {s : List UInt8} {k : Nat} {c : UInt8} (hc : s[k]? = some c) (h : hexI c.toNat < 0 ∨ 65 ≤ c.toNat ∧ c.toNat ≤ 70) : rightB s = false := by
  unfold rightB
  rw [all_not hc]; rfl
  unfold lowHex
  exact decide_eq_false (by omega)
theorem joinB_salt (a b c : List UInt8) : joinB [58] [a, b, c] = saltB a b c := by simp [joinB, saltB]
theorem saltB_length (a b c : List UInt8) : (saltB a b c).length = a.length + b.length + c.length + 2 := by simp [saltB]; omega

theorem salted_spec (w0 : World) (hK : Roots w0) (a b c : List UInt8) (hla : a.length ≤ 1000) (hlb : b.length ≤ 1000) (hlc : c.length ≤ 1000) : PureAt Tryd.prog 28 [.string ⟨a.toArray⟩, .string ⟨b.toArray⟩, .string ⟨c.toArray⟩] (.string ⟨(hexL (sumF (saltB a b c))).toArray⟩) w0 := by
  have hsl := saltB_length a b c
  have hj := joinB_salt a b c
  refine PureAt.intro go28 Tryd.func28 rfl rfl fun hp => ?_
  refine (fun (hk : ∀ w, Hp w0 [] [] w → K _ _ _ _ _ w) => hk w0 hp) fun w hp => ?_
  refine K_seq ?_
  refine K_region ?_
  refine W_assign rfl rfl ?_
  refine W_nil ?_
  refine N_then_k ?_
  refine K_seq ?_
  refine K_region ?_
  refine W_move rfl rfl ?_
  refine W_move rfl rfl ?_
  refine W_move rfl rfl ?_
  refine W_bslice3 hp Tryd.underlying56 sz9 zv9 rfl rfl rfl  rfl rfl rfl  (fun v0 v1 v2 => [v0, v1, v2]) rfl rfl rfl ?_
  clear hp; intro b10 w hp
  refine W_acall hp rfl (((joins_spec w [a, b, c] (some ⟨b10, 0, none⟩) 3 (Rd.own hp List.mem_cons_self (List.prefix_refl _)) (Nat.le_refl 3) [58] (by decide) (by decide) (show 3 ≤ 100000 by decide) (by rw [hj]; omega)).eq (congrArg strV hj))) rfl ?_
  clear hp; intro w hp
  refine W_acall hp rfl ((sum_spec w (hK.keep hp) (saltB a b c) (by omega))) rfl ?_
  clear hp; intro w hp
  refine W_acall hp rfl ((dhex_spec w (sumF (saltB a b c)) rfl)) rfl ?_
  clear hp; intro w hp
  refine W_assign rfl rfl ?_
  refine W_nil ?_
  refine N_then_k ?_
  refine K_ret ?_
  refine N_done1 (.inr rfl) rfl rfl ?_
  exact ⟨_, rfl, rfl, hp.nil⟩

end Go.Proofs.YtbdmaiipohfnaaaDoor
