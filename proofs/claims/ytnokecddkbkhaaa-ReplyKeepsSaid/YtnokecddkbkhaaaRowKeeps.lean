/-
  Law ReplyKeeps: changing a response does not change what it was made of: for all arguments.
-/
import Derived.Test.YtnokecddkbkhaaaRows
import Derived.Test.YtnokecddkbkhaaaSxOpen
import Derived.ChangeSlices
import Derived.Test.YtnokecddkbkhaaaKee
namespace Go.Proofs.Ytnokecddkbkhaaa.replyKeeps
open Go.Sx Go.ChangeShapes Go.WideShapes Go.ChangeAt Go.RowKit
open Go.ChangeMaps (open_string shut_string)
set_option linter.unusedVariables false
set_option linter.unusedSimpArgs false
theorem own : ownKnob Try.prog.godebug = none := by kernel_rfl
theorem laidOut : laidOutB Try.prog = true := by kernel_rfl
set_option maxRecDepth 100000 in
theorem lifted (os : Os) (started : os.Started) (H : Type) (enc : TypeId × Value → H) :
    ReturnsInHanded {} Try.checked os 6 .any (Rows.replyKeepsSpec.pre6 enc Try.prog Try.f6 Rows.replyKeepsRow.domain false) (Rows.replyKeepsSpec.post enc Try.prog Try.f6 false true false false) := by
  refine returnsInHanded_of_change (C := Try.checked) own started (by kernel_rfl) Try.func6
    (ChangeSpec.witness6 (enc := enc) (C := Try.checked) false ⟨#[], #[(.agg #[.slice none 0 0, .bool false, .string ⟨#[]⟩, .slice none 0 0]), (.agg #[.int .i64 0, .slice none 0 0, .slice none 0 0])], []⟩ 8 (by kernel_rfl) (by kernel_rfl) (by kernel_rfl) (by kernel_rfl)) ?_
  intro W base args ds gs before hval0 hW hcnd _
  have hval : ∀ (j : Nat) t v, Try.f6.params[j]? = some t → args[j]? = some v → Value.okWide Try.prog W .any base t v := hval0
  have hW' := hW
  obtain ⟨p, q, hA0, hV, rfl, hfz, hnd⟩ := hW
  have hA : DataW.TrodAll enc Try.prog W 0 (fun _ => true) true Try.f6.params.toList args.toList ds p := hA0
  rw [Try.params6] at hA hval
  obtain ⟨v0, vs0, d0, ds0, p0, q0, hargs, rfl, rfl, h0, r0⟩ := trodAll_cons hA
  obtain ⟨v1, vs1, d1, ds1, p1, q1, rfl, rfl, rfl, h1, r1⟩ := trodAll_cons r0
  obtain ⟨rfl, rfl, rfl⟩ := trodAll_nil r1
  obtain rfl : args = #[v0, v1] := by cases args; simp_all
  obtain ⟨rfl, rfl⟩ := trodVars_none hV
  have k0 := h0
  have lt0 : ∀ x ∈ p0, x.block < W.heap.size := by obtain ⟨m, hm⟩ := k0; exact DataW.trod_lt m _ _ _ hm
  have k1 := h1
  have lt1 : ∀ x ∈ p1, x.block < W.heap.size := by obtain ⟨m, hm⟩ := k1; exact DataW.trod_lt m _ _ _ hm
  obtain ⟨u0_0, u0_1, u0_2, u0_3, _, _, _, _, nn0, rfl, rfl, rfl, g0_0, g0_1, g0_2, g0_3⟩ := Joins.open_agg4 Try.underlying25 (by kernel_rfl) (by kernel_rfl) (hval 0 25 v0 rfl rfl) h0
  obtain ⟨A0_0, c0_0, L0_0, e0_0, l0_0, x0_0, r0_0⟩ := opn_strs (t := 22) Try.underlying22 Try.underlying9 (by kernel_rfl) g0_0
  subst e0_0
  have n0_0 : L0_0.length ≤ 9223372036854775807 := by unfold maxLen at x0_0; omega
  obtain ⟨s0_1, rfl⟩ := opn_bool (t := 4) Try.underlying4 g0_1
  obtain ⟨s0_2, rfl⟩ := opn_str (t := 9) Try.underlying9 g0_2
  obtain ⟨A0_3, c0_3, L0_3, e0_3, l0_3, x0_3, r0_3⟩ := opn_bytes (t := 23) Try.underlying23 Try.underlying5 (by kernel_rfl) g0_3
  subst e0_3
  have n0_3 : L0_3.length ≤ 9223372036854775807 := by unfold maxLen at x0_3; omega
  obtain ⟨u1_0, u1_1, u1_2, _, _, _, nn1, rfl, rfl, rfl, g1_0, g1_1, g1_2⟩ := Joins.open_agg3 Try.underlying32 (by kernel_rfl) (by kernel_rfl) (hval 1 32 v1 rfl rfl) h1
  obtain ⟨s1_0, rfl, w1_0⟩ := opn_int (t := 29) Try.underlying29 g1_0
  obtain ⟨A1_1, c1_1, L1_1, e1_1, l1_1, x1_1, r1_1⟩ := opn_pairs (t := 30) Try.underlying30 Try.underlying45 (by kernel_rfl) rfl rfl (by kernel_rfl) (by kernel_rfl) Try.underlying9 Try.underlying9 g1_1
  subst e1_1
  have n1_1 : L1_1.length ≤ 9223372036854775807 := by unfold maxLen at x1_1; omega
  obtain ⟨A1_2, c1_2, L1_2, e1_2, l1_2, x1_2, r1_2⟩ := opn_bytes (t := 23) Try.underlying23 Try.underlying5 (by kernel_rfl) g1_2
  subst e1_2
  have n1_2 : L1_2.length ≤ 9223372036854775807 := by unfold maxLen at x1_2; omega
  clear hA0 hval0
  refine (KE_walk W A0_0 L0_0.length c0_0 s0_1 s0_2 L0_3 A0_3 c0_3 r0_3 s1_0 L1_1 A1_1 c1_1 r1_1 n1_1 L1_2 A1_2 c1_2 r1_2).2.mono fun e W' ⟨v, he, hv, hh⟩ => ?_
  subst he; subst hv
  have bel := hh.below
  exact ⟨_, rfl, _, _, _, [], _, [], hW', trodAll_mk1 (shut_bool Try.underlying4 _), (trodAll_cons_mk (Below.trod laidOut (by kernel_rfl) (of_decide_eq_true (by kernel_rfl)) k0 bel lt0) (trodAll_cons_mk (Below.trod laidOut (by kernel_rfl) (of_decide_eq_true (by kernel_rfl)) k1 bel lt1) trodAll_mk0)), rfl, bel.frame _, fun h => by cases h⟩
theorem over : Rows.replyKeepsRow.holds Try.pinned (OpenSpec.ofChange Rows.replyKeepsSpec) :=
  OpenClaim.holds_of_wide 6 Try.f6 rfl rfl rfl rfl rfl rfl rfl ⟨rfl, rfl, rfl, rfl, rfl⟩ rfl rfl rfl rfl rfl (by kernel_rfl) Try.func6 (by kernel_rfl)
    (of_decide_eq_true (by kernel_rfl)) (by unfold Func.isWrapper; first | (rw [if_pos (by decide +kernel)]; kernel_rfl) | (rw [if_neg (by decide +kernel)]; exact ⟨rfl, rfl⟩))
    (fun os started H enc _ => lifted os started H enc)
theorem proved : Rows.ReplyKeepsSaid := over
#print axioms proved
end Go.Proofs.Ytnokecddkbkhaaa.replyKeeps
