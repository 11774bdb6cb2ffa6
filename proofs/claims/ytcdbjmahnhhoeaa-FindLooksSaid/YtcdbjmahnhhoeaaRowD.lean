/-
  FindLooks: the given statement.
-/
import Derived.Test.YtcdbjmahnhhoeaaRows
import Derived.Test.YtcdbjmahnhhoeaaSxOpen
import Derived.ChangeSlices
import Derived.Test.YtcdbjmahnhhoeaaLawD
import Derived.Test.YtcdbjmahnhhoeaaTreW
namespace Go.Proofs.Ytcdbjmahnhhoeaa.findLooks
open Go.Sx Go.ChangeShapes Go.WideShapes Go.ChangeAt Go.RowKit
open Go.ChangeMaps (open_string shut_string)
set_option linter.unusedVariables false
set_option linter.unusedSimpArgs false
theorem own : ownKnob Try.prog.godebug = none := by kernel_rfl
theorem laidOut : laidOutB Try.prog = true := by kernel_rfl
set_option maxRecDepth 100000 in
theorem lifted (os : Os) (started : os.Started) (H : Type) (enc : TypeId × Value → H) :
    ReturnsInHanded {} Try.checked os 5 .any (Rows.findLooksSpec.pre6 enc Try.prog Try.f5 Rows.findLooksRow.domain false) (Rows.findLooksSpec.post enc Try.prog Try.f5 false true false false) := by
  refine returnsInHanded_of_change (C := Try.checked) own started (by kernel_rfl) Try.func5
    (ChangeSpec.witness6 (enc := enc) (C := Try.checked) false ⟨#[], #[(.slice none 0 0), (.slice none 0 0), (.slice none 0 0), (.agg #[.slice none 0 0, .bool false]), (.string ⟨#[]⟩)], []⟩ 8 (by kernel_rfl) (by kernel_rfl) (by kernel_rfl) (by kernel_rfl)) ?_
  intro W base args ds gs before hval0 hW hcnd _
  have hval : ∀ (j : Nat) t v, Try.f5.params[j]? = some t → args[j]? = some v → Value.okWide Try.prog W .any base t v := hval0
  have hW' := hW
  obtain ⟨p, q, hA0, hV, rfl, hfz, hnd⟩ := hW
  have hA : DataW.TrodAll enc Try.prog W 0 (fun _ => true) true Try.f5.params.toList args.toList ds p := hA0
  rw [Try.params5] at hA hval
  obtain ⟨v0, vs0, d0, ds0, p0, q0, hargs, rfl, rfl, h0, r0⟩ := trodAll_cons hA
  obtain ⟨v1, vs1, d1, ds1, p1, q1, rfl, rfl, rfl, h1, r1⟩ := trodAll_cons r0
  obtain ⟨v2, vs2, d2, ds2, p2, q2, rfl, rfl, rfl, h2, r2⟩ := trodAll_cons r1
  obtain ⟨v3, vs3, d3, ds3, p3, q3, rfl, rfl, rfl, h3, r3⟩ := trodAll_cons r2
  obtain ⟨v4, vs4, d4, ds4, p4, q4, rfl, rfl, rfl, h4, r4⟩ := trodAll_cons r3
  obtain ⟨rfl, rfl, rfl⟩ := trodAll_nil r4
  obtain rfl : args = #[v0, v1, v2, v3, v4] := by cases args; simp_all
  obtain ⟨rfl, rfl⟩ := trodVars_none hV
  have k0 := h0
  have lt0 : ∀ x ∈ p0, x.block < W.heap.size := by obtain ⟨m, hm⟩ := k0; exact DataW.trod_lt m _ _ _ hm
  have k1 := h1
  have lt1 : ∀ x ∈ p1, x.block < W.heap.size := by obtain ⟨m, hm⟩ := k1; exact DataW.trod_lt m _ _ _ hm
  have k2 := h2
  have lt2 : ∀ x ∈ p2, x.block < W.heap.size := by obtain ⟨m, hm⟩ := k2; exact DataW.trod_lt m _ _ _ hm
  have k3 := h3
  have lt3 : ∀ x ∈ p3, x.block < W.heap.size := by obtain ⟨m, hm⟩ := k3; exact DataW.trod_lt m _ _ _ hm
  have k4 := h4
  have lt4 : ∀ x ∈ p4, x.block < W.heap.size := by obtain ⟨m, hm⟩ := k4; exact DataW.trod_lt m _ _ _ hm
  obtain ⟨aa0, ll0, cc0, rfl⟩ := okWide_slice Try.underlying23 (hval 0 23 v0 rfl rfl)
  obtain ⟨fu0, hf0⟩ := h0
  obtain ⟨A0, c0, L0, e0, l0, x0, rr0, zz0⟩ := opn_files (v := .slice aa0 ll0 cc0) hf0
  simp only [Value.slice.injEq] at e0
  obtain ⟨rfl, rfl, rfl⟩ := e0
  have n0 : L0.length ≤ 9223372036854775807 := by unfold maxLen at x0; omega
  obtain ⟨aa1, ll1, cc1, rfl⟩ := okWide_slice Try.underlying23 (hval 1 23 v1 rfl rfl)
  obtain ⟨fu1, hf1⟩ := h1
  obtain ⟨A1, c1, L1, e1, l1, x1, rr1, zz1⟩ := opn_files (v := .slice aa1 ll1 cc1) hf1
  simp only [Value.slice.injEq] at e1
  obtain ⟨rfl, rfl, rfl⟩ := e1
  have n1 : L1.length ≤ 9223372036854775807 := by unfold maxLen at x1; omega
  obtain ⟨aa2, ll2, cc2, rfl⟩ := okWide_slice Try.underlying24 (hval 2 24 v2 rfl rfl)
  obtain ⟨fu2, hf2⟩ := h2
  obtain ⟨A2, c2, L2, e2, l2, x2, r2⟩ := opn_strs (t := 24) Try.underlying24 Try.underlying9 (by kernel_rfl) (v := .slice aa2 ll2 cc2) hf2
  have rr2 := r2
  simp only [Value.slice.injEq] at e2
  obtain ⟨rfl, rfl, rfl⟩ := e2
  have n2 : L2.length ≤ 9223372036854775807 := by unfold maxLen at x2; omega
  obtain ⟨u3_0, u3_1, _, _, nn3, rfl, rfl, rfl, g3_0, g3_1⟩ := Joins.open_agg2 Try.underlying26 (by kernel_rfl) (by kernel_rfl) (hval 3 26 v3 rfl rfl) h3
  obtain ⟨A3_0, c3_0, L3_0, e3_0, l3_0, x3_0, r3_0⟩ := opn_strs (t := 24) Try.underlying24 Try.underlying9 (by kernel_rfl) g3_0
  have rr3_0 := r3_0
  subst e3_0
  have n3_0 : L3_0.length ≤ 9223372036854775807 := by unfold maxLen at x3_0; omega
  obtain ⟨s3_1, rfl⟩ := opn_bool (t := 4) Try.underlying4 g3_1
  obtain ⟨bb4, rfl, rfl, rfl, bd4⟩ := open_string Try.underlying9 (hval 4 9 v4 rfl rfl) h4
  obtain ⟨ix, rfl⟩ : ∃ l : List UInt8, bb4 = ⟨l.toArray⟩ := ⟨bb4.data.toList, by simp⟩
  clear hA0 hval0
  refine (FindLooks_walk W L0 aa0 cc0 rr0 (fun y hy => (zz0 y hy).1) n0 (fun y hy => (zz0 y hy).2) L1 aa1 cc1 rr1 (fun y hy => (zz1 y hy).1) n1 (fun y hy => (zz1 y hy).2) L2 aa2 cc2 rr2 n2 L3_0 A3_0 c3_0 rr3_0 n3_0 s3_1 ix).2.mono fun e W' ⟨v, he, hv, hh⟩ => ?_
  subst he; subst hv
  have bel := hh.below
  exact ⟨_, rfl, _, _, _, [], _, [], hW', trodAll_mk1 (shut_bool Try.underlying4 _), (trodAll_cons_mk (Below.trod laidOut (by kernel_rfl) (of_decide_eq_true (by kernel_rfl)) k0 bel lt0) (trodAll_cons_mk (Below.trod laidOut (by kernel_rfl) (of_decide_eq_true (by kernel_rfl)) k1 bel lt1) (trodAll_cons_mk (Below.trod laidOut (by kernel_rfl) (of_decide_eq_true (by kernel_rfl)) k2 bel lt2) (trodAll_cons_mk (Below.trod laidOut (by kernel_rfl) (of_decide_eq_true (by kernel_rfl)) k3 bel lt3) (trodAll_cons_mk (Below.trod laidOut (by kernel_rfl) (of_decide_eq_true (by kernel_rfl)) k4 bel lt4) trodAll_mk0))))), rfl, bel.frame _, fun h => by cases h⟩
theorem over : Rows.findLooksRow.holds Try.pinned (OpenSpec.ofChange Rows.findLooksSpec) :=
  OpenClaim.holds_of_wide 5 Try.f5 rfl rfl rfl rfl rfl rfl rfl ⟨rfl, rfl, rfl, rfl, rfl⟩ rfl rfl rfl rfl rfl (by kernel_rfl) Try.func5 (by kernel_rfl)
    (of_decide_eq_true (by kernel_rfl)) (by unfold Func.isWrapper; first | (rw [if_pos (by decide +kernel)]; kernel_rfl) | (rw [if_neg (by decide +kernel)]; exact ⟨rfl, rfl⟩))
    (fun os started H enc _ => lifted os started H enc)
theorem proved : Rows.FindLooksSaid := over
#print axioms proved
end Go.Proofs.Ytcdbjmahnhhoeaa.findLooks
