/-
  FindMatchesReference: the given statement.
-/
import Derived.Test.YtcdbjmahnhhoeaaRows
import Derived.Test.YtcdbjmahnhhoeaaSxOpen
import Derived.ChangeSlices
import Derived.Test.YtcdbjmahnhhoeaaLawC
import Derived.Test.YtcdbjmahnhhoeaaTreW
namespace Go.Proofs.Ytcdbjmahnhhoeaa.findMatchesReference
open Go.Sx Go.ChangeShapes Go.WideShapes Go.ChangeAt Go.RowKit
open Go.ChangeMaps (open_string shut_string)
set_option linter.unusedVariables false
set_option linter.unusedSimpArgs false
theorem own : ownKnob Try.prog.godebug = none := by kernel_rfl
theorem laidOut : laidOutB Try.prog = true := by kernel_rfl
set_option maxRecDepth 100000 in
theorem lifted (os : Os) (started : os.Started) (H : Type) (enc : TypeId × Value → H) :
    ReturnsInHanded {} Try.checked os 3 .any (Rows.findMatchesReferenceSpec.pre6 enc Try.prog Try.f3 Rows.findMatchesReferenceRow.domain false) (Rows.findMatchesReferenceSpec.post enc Try.prog Try.f3 false true false false) := by
  refine returnsInHanded_of_change (C := Try.checked) own started (by kernel_rfl) Try.func3
    (ChangeSpec.witness6 (enc := enc) (C := Try.checked) false ⟨#[], #[(.slice none 0 0), (.slice none 0 0), (.agg #[.slice none 0 0, .bool false]), (.string ⟨#[]⟩), (.slice none 0 0)], []⟩ 8 (by kernel_rfl) (by kernel_rfl) (by kernel_rfl) (by kernel_rfl)) ?_
  intro W base args ds gs before hval0 hW hcnd _
  have hval : ∀ (j : Nat) t v, Try.f3.params[j]? = some t → args[j]? = some v → Value.okWide Try.prog W .any base t v := hval0
  have hW' := hW
  obtain ⟨p, q, hA0, hV, rfl, hfz, hnd⟩ := hW
  have hA : DataW.TrodAll enc Try.prog W 0 (fun _ => true) true Try.f3.params.toList args.toList ds p := hA0
  rw [Try.params3] at hA hval
  obtain ⟨v0, vs0, d0, ds0, p0, q0, hargs, rfl, rfl, h0, r0⟩ := trodAll_cons hA
  obtain ⟨v1, vs1, d1, ds1, p1, q1, rfl, rfl, rfl, h1, r1⟩ := trodAll_cons r0
  obtain ⟨v2, vs2, d2, ds2, p2, q2, rfl, rfl, rfl, h2, r2⟩ := trodAll_cons r1
  obtain ⟨v3, vs3, d3, ds3, p3, q3, rfl, rfl, rfl, h3, r3⟩ := trodAll_cons r2
  obtain ⟨v4, vs4, d4, ds4, p4, q4, rfl, rfl, rfl, h4, r4⟩ := trodAll_cons r3
  obtain ⟨rfl, rfl, rfl⟩ := trodAll_nil r4
  obtain rfl : args = #[v0, v1, v2, v3, v4] := by cases args; simp_all
  obtain ⟨rfl, rfl⟩ := trodVars_none hV
  have k0 := h0
  have lt0 : ∀ x ∈ p0, x.block < W.heap.size := by obtain ⟨m, hm⟩ := k0; exact DataW.trod_lt m _ _ _ hm
  have k1 := h1
  have lt1 : ∀ x ∈ p1, x.block < W.heap.size := by obtain ⟨m, hm⟩ := k1; exact DataW.trod_lt m _ _ _ hm
  have k2 := h2
  have lt2 : ∀ x ∈ p2, x.block < W.heap.size := by obtain ⟨m, hm⟩ := k2; exact DataW.trod_lt m _ _ _ hm
  have k3 := h3
  have lt3 : ∀ x ∈ p3, x.block < W.heap.size := by obtain ⟨m, hm⟩ := k3; exact DataW.trod_lt m _ _ _ hm
  have k4 := h4
  have lt4 : ∀ x ∈ p4, x.block < W.heap.size := by obtain ⟨m, hm⟩ := k4; exact DataW.trod_lt m _ _ _ hm
  obtain ⟨aa0, ll0, cc0, rfl⟩ := okWide_slice Try.underlying23 (hval 0 23 v0 rfl rfl)
  obtain ⟨fu0, hf0⟩ := h0
  obtain ⟨A0, c0, L0, e0, l0, x0, rr0, zz0⟩ := opn_files (v := .slice aa0 ll0 cc0) hf0
  simp only [Value.slice.injEq] at e0
  obtain ⟨rfl, rfl, rfl⟩ := e0
  have n0 : L0.length ≤ 9223372036854775807 := by unfold maxLen at x0; omega
  obtain ⟨aa1, ll1, cc1, rfl⟩ := okWide_slice Try.underlying24 (hval 1 24 v1 rfl rfl)
  obtain ⟨fu1, hf1⟩ := h1
  obtain ⟨A1, c1, L1, e1, l1, x1, r1⟩ := opn_strs (t := 24) Try.underlying24 Try.underlying9 (by kernel_rfl) (v := .slice aa1 ll1 cc1) hf1
  have rr1 := r1
  simp only [Value.slice.injEq] at e1
  obtain ⟨rfl, rfl, rfl⟩ := e1
  have n1 : L1.length ≤ 9223372036854775807 := by unfold maxLen at x1; omega
  obtain ⟨u2_0, u2_1, _, _, nn2, rfl, rfl, rfl, g2_0, g2_1⟩ := Joins.open_agg2 Try.underlying26 (by kernel_rfl) (by kernel_rfl) (hval 2 26 v2 rfl rfl) h2
  obtain ⟨A2_0, c2_0, L2_0, e2_0, l2_0, x2_0, r2_0⟩ := opn_strs (t := 24) Try.underlying24 Try.underlying9 (by kernel_rfl) g2_0
  have rr2_0 := r2_0
  subst e2_0
  have n2_0 : L2_0.length ≤ 9223372036854775807 := by unfold maxLen at x2_0; omega
  obtain ⟨s2_1, rfl⟩ := opn_bool (t := 4) Try.underlying4 g2_1
  obtain ⟨bb3, rfl, rfl, rfl, bd3⟩ := open_string Try.underlying9 (hval 3 9 v3 rfl rfl) h3
  obtain ⟨ix, rfl⟩ : ∃ l : List UInt8, bb3 = ⟨l.toArray⟩ := ⟨bb3.data.toList, by simp⟩
  obtain ⟨aa4, ll4, cc4, rfl⟩ := okWide_slice Try.underlying24 (hval 4 24 v4 rfl rfl)
  obtain ⟨fu4, hf4⟩ := h4
  obtain ⟨A4, c4, L4, e4, l4, x4, r4⟩ := opn_strs (t := 24) Try.underlying24 Try.underlying9 (by kernel_rfl) (v := .slice aa4 ll4 cc4) hf4
  have rr4 := r4
  simp only [Value.slice.injEq] at e4
  obtain ⟨rfl, rfl, rfl⟩ := e4
  have n4 : L4.length ≤ 9223372036854775807 := by unfold maxLen at x4; omega
  clear hA0 hval0
  refine (FindMatchesReference_walk W L0 aa0 cc0 rr0 (fun y hy => (zz0 y hy).1) n0 (fun y hy => (zz0 y hy).2) L1 aa1 cc1 rr1 n1 L2_0 A2_0 c2_0 rr2_0 n2_0 s2_1 ix L4 aa4 cc4 rr4 n4).2.mono fun e W' ⟨v, he, hv, hh⟩ => ?_
  subst he; subst hv
  have bel := hh.below
  exact ⟨_, rfl, _, _, _, [], _, [], hW', trodAll_mk1 (shut_bool Try.underlying4 _), (trodAll_cons_mk (Below.trod laidOut (by kernel_rfl) (of_decide_eq_true (by kernel_rfl)) k0 bel lt0) (trodAll_cons_mk (Below.trod laidOut (by kernel_rfl) (of_decide_eq_true (by kernel_rfl)) k1 bel lt1) (trodAll_cons_mk (Below.trod laidOut (by kernel_rfl) (of_decide_eq_true (by kernel_rfl)) k2 bel lt2) (trodAll_cons_mk (Below.trod laidOut (by kernel_rfl) (of_decide_eq_true (by kernel_rfl)) k3 bel lt3) (trodAll_cons_mk (Below.trod laidOut (by kernel_rfl) (of_decide_eq_true (by kernel_rfl)) k4 bel lt4) trodAll_mk0))))), rfl, bel.frame _, fun h => by cases h⟩
theorem over : Rows.findMatchesReferenceRow.holds Try.pinned (OpenSpec.ofChange Rows.findMatchesReferenceSpec) :=
  OpenClaim.holds_of_wide 3 Try.f3 rfl rfl rfl rfl rfl rfl rfl ⟨rfl, rfl, rfl, rfl, rfl⟩ rfl rfl rfl rfl rfl (by kernel_rfl) Try.func3 (by kernel_rfl)
    (of_decide_eq_true (by kernel_rfl)) (by unfold Func.isWrapper; first | (rw [if_pos (by decide +kernel)]; kernel_rfl) | (rw [if_neg (by decide +kernel)]; exact ⟨rfl, rfl⟩))
    (fun os started H enc _ => lifted os started H enc)
theorem proved : Rows.FindMatchesReferenceSaid := over
#print axioms proved
end Go.Proofs.Ytcdbjmahnhhoeaa.findMatchesReference
