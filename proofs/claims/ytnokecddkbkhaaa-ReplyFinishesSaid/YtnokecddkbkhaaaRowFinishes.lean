/-
  Law ReplyFinishes: any response is finished as in the reference implementation, and two responses are the same as it says: for all arguments.
-/
import Derived.Test.YtnokecddkbkhaaaRows
import Derived.Test.YtnokecddkbkhaaaSxOpen
import Derived.ChangeSlices
import Derived.Test.YtnokecddkbkhaaaLaws
namespace Go.Proofs.Ytnokecddkbkhaaa.replyFinishes
open Go.Sx Go.ChangeShapes Go.WideShapes Go.ChangeAt Go.RowKit
open Go.ChangeMaps (open_string shut_string)
set_option linter.unusedVariables false
set_option linter.unusedSimpArgs false
theorem own : ownKnob Try.prog.godebug = none := by kernel_rfl
theorem laidOut : laidOutB Try.prog = true := by kernel_rfl
set_option maxRecDepth 100000 in
theorem lifted (os : Os) (started : os.Started) (H : Type) (enc : TypeId × Value → H) :
    ReturnsInHanded {} Try.checked os 4 .any (Rows.replyFinishesSpec.pre6 enc Try.prog Try.f4 Rows.replyFinishesRow.domain false) (Rows.replyFinishesSpec.post enc Try.prog Try.f4 false true false false) := by
  refine returnsInHanded_of_change (C := Try.checked) own started (by kernel_rfl) Try.func4
    (ChangeSpec.witness6 (enc := enc) (C := Try.checked) false ⟨#[], #[(.agg #[.int .i64 0, .slice none 0 0, .slice none 0 0]), (.agg #[.int .i64 0, .slice none 0 0, .slice none 0 0]), (.string ⟨#[]⟩), (.int .i64 0), (.bool false)], []⟩ 8 (by kernel_rfl) (by kernel_rfl) (by kernel_rfl) (by kernel_rfl)) ?_
  intro W base args ds gs before hval0 hW hcnd _
  have hval : ∀ (j : Nat) t v, Try.f4.params[j]? = some t → args[j]? = some v → Value.okWide Try.prog W .any base t v := hval0
  have hW' := hW
  obtain ⟨p, q, hA0, hV, rfl, hfz, hnd⟩ := hW
  have hA : DataW.TrodAll enc Try.prog W 0 (fun _ => true) true Try.f4.params.toList args.toList ds p := hA0
  rw [Try.params4] at hA hval
  obtain ⟨v0, vs0, d0, ds0, p0, q0, hargs, rfl, rfl, h0, r0⟩ := trodAll_cons hA
  obtain ⟨v1, vs1, d1, ds1, p1, q1, rfl, rfl, rfl, h1, r1⟩ := trodAll_cons r0
  obtain ⟨v2, vs2, d2, ds2, p2, q2, rfl, rfl, rfl, h2, r2⟩ := trodAll_cons r1
  obtain ⟨v3, vs3, d3, ds3, p3, q3, rfl, rfl, rfl, h3, r3⟩ := trodAll_cons r2
  obtain ⟨v4, vs4, d4, ds4, p4, q4, rfl, rfl, rfl, h4, r4⟩ := trodAll_cons r3
  obtain ⟨rfl, rfl, rfl⟩ := trodAll_nil r4
  obtain rfl : args = #[v0, v1, v2, v3, v4] := by cases args; simp_all
  obtain ⟨rfl, rfl⟩ := trodVars_none hV
  have k0 := h0
  have lt0 : ∀ x ∈ p0, x.block < W.heap.size := by obtain ⟨m, hm⟩ := k0; exact DataW.trod_lt m _ _ _ hm
  have k1 := h1
  have lt1 : ∀ x ∈ p1, x.block < W.heap.size := by obtain ⟨m, hm⟩ := k1; exact DataW.trod_lt m _ _ _ hm
  have k2 := h2
  have lt2 : ∀ x ∈ p2, x.block < W.heap.size := by obtain ⟨m, hm⟩ := k2; exact DataW.trod_lt m _ _ _ hm
  have k3 := h3
  have lt3 : ∀ x ∈ p3, x.block < W.heap.size := by obtain ⟨m, hm⟩ := k3; exact DataW.trod_lt m _ _ _ hm
  have k4 := h4
  have lt4 : ∀ x ∈ p4, x.block < W.heap.size := by obtain ⟨m, hm⟩ := k4; exact DataW.trod_lt m _ _ _ hm
  obtain ⟨u0_0, u0_1, u0_2, _, _, _, nn0, rfl, rfl, rfl, g0_0, g0_1, g0_2⟩ := Joins.open_agg3 Try.underlying32 (by kernel_rfl) (by kernel_rfl) (hval 0 32 v0 rfl rfl) h0
  obtain ⟨s0_0, rfl, w0_0⟩ := opn_int (t := 29) Try.underlying29 g0_0
  obtain ⟨A0_1, c0_1, L0_1, e0_1, l0_1, x0_1, r0_1⟩ := opn_pairs (t := 30) Try.underlying30 Try.underlying45 (by kernel_rfl) rfl rfl (by kernel_rfl) (by kernel_rfl) Try.underlying9 Try.underlying9 g0_1
  subst e0_1
  have n0_1 : L0_1.length ≤ 9223372036854775807 := by unfold maxLen at x0_1; omega
  obtain ⟨A0_2, c0_2, L0_2, e0_2, l0_2, x0_2, r0_2⟩ := opn_bytes (t := 23) Try.underlying23 Try.underlying5 (by kernel_rfl) g0_2
  subst e0_2
  have n0_2 : L0_2.length ≤ 9223372036854775807 := by unfold maxLen at x0_2; omega
  obtain ⟨u1_0, u1_1, u1_2, _, _, _, nn1, rfl, rfl, rfl, g1_0, g1_1, g1_2⟩ := Joins.open_agg3 Try.underlying32 (by kernel_rfl) (by kernel_rfl) (hval 1 32 v1 rfl rfl) h1
  obtain ⟨s1_0, rfl, w1_0⟩ := opn_int (t := 29) Try.underlying29 g1_0
  obtain ⟨A1_1, c1_1, L1_1, e1_1, l1_1, x1_1, r1_1⟩ := opn_pairs (t := 30) Try.underlying30 Try.underlying45 (by kernel_rfl) rfl rfl (by kernel_rfl) (by kernel_rfl) Try.underlying9 Try.underlying9 g1_1
  subst e1_1
  have n1_1 : L1_1.length ≤ 9223372036854775807 := by unfold maxLen at x1_1; omega
  obtain ⟨A1_2, c1_2, L1_2, e1_2, l1_2, x1_2, r1_2⟩ := opn_bytes (t := 23) Try.underlying23 Try.underlying5 (by kernel_rfl) g1_2
  subst e1_2
  have n1_2 : L1_2.length ≤ 9223372036854775807 := by unfold maxLen at x1_2; omega
  obtain ⟨bb2, rfl, rfl, rfl, bd2⟩ := open_string Try.underlying9 (hval 2 9 v2 rfl rfl) h2
  obtain ⟨m, rfl⟩ : ∃ l : List UInt8, bb2 = ⟨l.toArray⟩ := ⟨bb2.data.toList, by simp⟩
  obtain ⟨mi, rfl, rfl, rfl, bd3⟩ := open_int Try.underlying3 (hval 3 3 v3 rfl rfl) h3
  have in3 := bd_i64 bd3
  obtain ⟨ke, rfl, rfl, rfl⟩ := open_bool Try.underlying4 (hval 4 4 v4 rfl rfl) h4
  clear hA0 hval0
  refine (FI_walk W s0_0 L0_1 A0_1 c0_1 r0_1 n0_1 L0_2 A0_2 c0_2 r0_2 s1_0 L1_1 A1_1 c1_1 r1_1 n1_1 L1_2 A1_2 c1_2 r1_2 m mi ke).2.mono fun e W' ⟨v, he, hv, hh⟩ => ?_
  subst he; subst hv
  have bel := hh.below
  exact ⟨_, rfl, _, _, _, [], _, [], hW', trodAll_mk1 (shut_bool Try.underlying4 _), (trodAll_cons_mk (Below.trod laidOut (by kernel_rfl) (of_decide_eq_true (by kernel_rfl)) k0 bel lt0) (trodAll_cons_mk (Below.trod laidOut (by kernel_rfl) (of_decide_eq_true (by kernel_rfl)) k1 bel lt1) (trodAll_cons_mk (Below.trod laidOut (by kernel_rfl) (of_decide_eq_true (by kernel_rfl)) k2 bel lt2) (trodAll_cons_mk (Below.trod laidOut (by kernel_rfl) (of_decide_eq_true (by kernel_rfl)) k3 bel lt3) (trodAll_cons_mk (Below.trod laidOut (by kernel_rfl) (of_decide_eq_true (by kernel_rfl)) k4 bel lt4) trodAll_mk0))))), rfl, bel.frame _, fun h => by cases h⟩
theorem over : Rows.replyFinishesRow.holds Try.pinned (OpenSpec.ofChange Rows.replyFinishesSpec) :=
  OpenClaim.holds_of_wide 4 Try.f4 rfl rfl rfl rfl rfl rfl rfl ⟨rfl, rfl, rfl, rfl, rfl⟩ rfl rfl rfl rfl rfl (by kernel_rfl) Try.func4 (by kernel_rfl)
    (of_decide_eq_true (by kernel_rfl)) (by unfold Func.isWrapper; first | (rw [if_pos (by decide +kernel)]; kernel_rfl) | (rw [if_neg (by decide +kernel)]; exact ⟨rfl, rfl⟩))
    (fun os started H enc _ => lifted os started H enc)
theorem proved : Rows.ReplyFinishesSaid := over
#print axioms proved
end Go.Proofs.Ytnokecddkbkhaaa.replyFinishes
