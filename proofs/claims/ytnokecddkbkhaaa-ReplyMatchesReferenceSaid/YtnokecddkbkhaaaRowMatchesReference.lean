/-
  Law ReplyMatchesReference: for any strings, the responses are those of the reference implementation: for all arguments.
-/
import Derived.Test.YtnokecddkbkhaaaRows
import Derived.Test.YtnokecddkbkhaaaSxOpen
import Derived.ChangeSlices
import Derived.Test.YtnokecddkbkhaaaLaws
namespace Go.Proofs.Ytnokecddkbkhaaa.replyMatchesReference
open Go.Sx Go.ChangeShapes Go.WideShapes Go.ChangeAt Go.RowKit
open Go.ChangeMaps (open_string shut_string)
set_option linter.unusedVariables false
set_option linter.unusedSimpArgs false
theorem own : ownKnob Try.prog.godebug = none := by kernel_rfl
theorem laidOut : laidOutB Try.prog = true := by kernel_rfl
set_option maxRecDepth 100000 in
theorem lifted (os : Os) (started : os.Started) (H : Type) (enc : TypeId × Value → H) :
    ReturnsInHanded {} Try.checked os 3 .any (Rows.replyMatchesReferenceSpec.pre6 enc Try.prog Try.f3 Rows.replyMatchesReferenceRow.domain false) (Rows.replyMatchesReferenceSpec.post enc Try.prog Try.f3 false true false false) := by
  refine returnsInHanded_of_change (C := Try.checked) own started (by kernel_rfl) Try.func3
    (ChangeSpec.witness6 (enc := enc) (C := Try.checked) false ⟨#[], #[(.int .i64 0), (.agg #[.slice none 0 0, .bool false, .string ⟨#[]⟩, .slice none 0 0]), (.string ⟨#[]⟩), (.slice none 0 0)], []⟩ 8 (by kernel_rfl) (by kernel_rfl) (by kernel_rfl) (by kernel_rfl)) ?_
  intro W base args ds gs before hval0 hW hcnd _
  have hval : ∀ (j : Nat) t v, Try.f3.params[j]? = some t → args[j]? = some v → Value.okWide Try.prog W .any base t v := hval0
  have hW' := hW
  obtain ⟨p, q, hA0, hV, rfl, hfz, hnd⟩ := hW
  have hA : DataW.TrodAll enc Try.prog W 0 (fun _ => true) true Try.f3.params.toList args.toList ds p := hA0
  rw [Try.params3] at hA hval
  obtain ⟨v0, vs0, d0, ds0, p0, q0, hargs, rfl, rfl, h0, r0⟩ := trodAll_cons hA
  obtain ⟨v1, vs1, d1, ds1, p1, q1, rfl, rfl, rfl, h1, r1⟩ := trodAll_cons r0
  obtain ⟨v2, vs2, d2, ds2, p2, q2, rfl, rfl, rfl, h2, r2⟩ := trodAll_cons r1
  obtain ⟨v3, vs3, d3, ds3, p3, q3, rfl, rfl, rfl, h3, r3⟩ := trodAll_cons r2
  obtain ⟨rfl, rfl, rfl⟩ := trodAll_nil r3
  obtain rfl : args = #[v0, v1, v2, v3] := by cases args; simp_all
  obtain ⟨rfl, rfl⟩ := trodVars_none hV
  have k0 := h0
  have lt0 : ∀ x ∈ p0, x.block < W.heap.size := by obtain ⟨m, hm⟩ := k0; exact DataW.trod_lt m _ _ _ hm
  have k1 := h1
  have lt1 : ∀ x ∈ p1, x.block < W.heap.size := by obtain ⟨m, hm⟩ := k1; exact DataW.trod_lt m _ _ _ hm
  have k2 := h2
  have lt2 : ∀ x ∈ p2, x.block < W.heap.size := by obtain ⟨m, hm⟩ := k2; exact DataW.trod_lt m _ _ _ hm
  have k3 := h3
  have lt3 : ∀ x ∈ p3, x.block < W.heap.size := by obtain ⟨m, hm⟩ := k3; exact DataW.trod_lt m _ _ _ hm
  obtain ⟨s, rfl, rfl, rfl, bd0⟩ := open_int Try.underlying3 (hval 0 3 v0 rfl rfl) h0
  have in0 := bd_i64 bd0
  obtain ⟨u1_0, u1_1, u1_2, u1_3, _, _, _, _, nn1, rfl, rfl, rfl, g1_0, g1_1, g1_2, g1_3⟩ := Joins.open_agg4 Try.underlying25 (by kernel_rfl) (by kernel_rfl) (hval 1 25 v1 rfl rfl) h1
  obtain ⟨A1_0, c1_0, L1_0, e1_0, l1_0, x1_0, r1_0⟩ := opn_strs (t := 22) Try.underlying22 Try.underlying9 (by kernel_rfl) g1_0
  subst e1_0
  have n1_0 : L1_0.length ≤ 9223372036854775807 := by unfold maxLen at x1_0; omega
  obtain ⟨s1_1, rfl⟩ := opn_bool (t := 4) Try.underlying4 g1_1
  obtain ⟨s1_2, rfl⟩ := opn_str (t := 9) Try.underlying9 g1_2
  obtain ⟨A1_3, c1_3, L1_3, e1_3, l1_3, x1_3, r1_3⟩ := opn_bytes (t := 23) Try.underlying23 Try.underlying5 (by kernel_rfl) g1_3
  subst e1_3
  have n1_3 : L1_3.length ≤ 9223372036854775807 := by unfold maxLen at x1_3; omega
  obtain ⟨bb2, rfl, rfl, rfl, bd2⟩ := open_string Try.underlying9 (hval 2 9 v2 rfl rfl) h2
  obtain ⟨t, rfl⟩ : ∃ l : List UInt8, bb2 = ⟨l.toArray⟩ := ⟨bb2.data.toList, by simp⟩
  obtain ⟨aa3, ll3, cc3, rfl⟩ := okWide_slice Try.underlying22 (hval 3 22 v3 rfl rfl)
  obtain ⟨fu3, hf3⟩ := h3
  obtain ⟨A3, c3, L3, e3, l3, x3, r3⟩ := opn_strs (t := 22) Try.underlying22 Try.underlying9 (by kernel_rfl) (v := .slice aa3 ll3 cc3) hf3
  simp only [Value.slice.injEq] at e3
  obtain ⟨rfl, rfl, rfl⟩ := e3
  have n3 : L3.length ≤ 9223372036854775807 := by unfold maxLen at x3; omega
  clear hA0 hval0
  refine (MR_walk W s L1_0 A1_0 c1_0 r1_0 n1_0 s1_1 s1_2 L1_3 A1_3 c1_3 r1_3 t L3 aa3 cc3 r3 l3 n3).2.mono fun e W' ⟨v, he, hv, hh⟩ => ?_
  subst he; subst hv
  have bel := hh.below
  exact ⟨_, rfl, _, _, _, [], _, [], hW', trodAll_mk1 (shut_bool Try.underlying4 _), (trodAll_cons_mk (Below.trod laidOut (by kernel_rfl) (of_decide_eq_true (by kernel_rfl)) k0 bel lt0) (trodAll_cons_mk (Below.trod laidOut (by kernel_rfl) (of_decide_eq_true (by kernel_rfl)) k1 bel lt1) (trodAll_cons_mk (Below.trod laidOut (by kernel_rfl) (of_decide_eq_true (by kernel_rfl)) k2 bel lt2) (trodAll_cons_mk (Below.trod laidOut (by kernel_rfl) (of_decide_eq_true (by kernel_rfl)) k3 bel lt3) trodAll_mk0)))), rfl, bel.frame _, fun h => by cases h⟩
theorem over : Rows.replyMatchesReferenceRow.holds Try.pinned (OpenSpec.ofChange Rows.replyMatchesReferenceSpec) :=
  OpenClaim.holds_of_wide 3 Try.f3 rfl rfl rfl rfl rfl rfl rfl ⟨rfl, rfl, rfl, rfl, rfl⟩ rfl rfl rfl rfl rfl (by kernel_rfl) Try.func3 (by kernel_rfl)
    (of_decide_eq_true (by kernel_rfl)) (by unfold Func.isWrapper; first | (rw [if_pos (by decide +kernel)]; kernel_rfl) | (rw [if_neg (by decide +kernel)]; exact ⟨rfl, rfl⟩))
    (fun os started H enc _ => lifted os started H enc)
theorem proved : Rows.ReplyMatchesReferenceSaid := over
#print axioms proved
end Go.Proofs.Ytnokecddkbkhaaa.replyMatchesReference
