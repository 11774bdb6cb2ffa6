/-
  Law ReqlineSpaces, up to the bulk of its second form: a further space, wherever it is, and a missing part are errors with the offset 0.
-/
import Derived.Test.YtcanebnegfnhdaaDoorRows
import Derived.Test.YtcanebnegfnhdaaDoorTie
import Derived.Test.YtcanebnegfnhdaaDoorCards
import Derived.Test.YtcanebnegfnhdaaDoorSxLaid
import Derived.ChangeSame
import Derived.ChangeVars
import Derived.JoinedOf
import Derived.LaidLaws
import Derived.LaidHandle
import Derived.SevenTiedAt
import Derived.ChangeSlices
import Derived.Test.YtcanebnegfnhdaaDoorLaw4
import Derived.Test.YtcanebnegfnhdaaDoorReqD
namespace Go.Proofs.YtcanebnegfnhdaaDoor.reqlineSpacesUpto
open Go.Sx Go.ChangeShapes Go.WideShapes Go.ChangeAt Go.RowKit
open Go.ChangeMaps (open_string shut_string)
set_option linter.unusedVariables false
set_option linter.unusedSimpArgs false
set_option maxRecDepth 100000
theorem own : ownKnob Tryd.prog.godebug = none := by kernel_rfl
theorem laidOut : laidOutB Tryd.prog = true := by kernel_rfl
theorem et : Tryd.prog.globalNamed "errors.errorType" = some 2 := by kernel_rfl
theorem rt : (Tryd.prog.cutTypes.find? (·.1 == "internal/reflectlite.rtype")).map (·.2) = some 96 := by kernel_rfl
theorem tsize : Tryd.prog.types.size = 150 := by kernel_rfl
theorem oneRow : ((List.range 150).filter fun t => Tryd.prog.rowNamed t [101, 114, 114, 111, 114]) = [26] := by kernel_rfl
theorem parts {W : World} (h : laidMetH Tryd.prog Rows.reqlineSpacesUptoRow.laid W) : laidMet Tryd.prog [("unicode/utf8.acceptRanges", Rows.laid_unicode_utf8_acceptRanges), ("doorkeeper/reqline.others", Rows.laid_doorkeeper_reqline_others), ("unicode/utf8.first", Rows.laid_unicode_utf8_first)] W ∧ handlesMet Tryd.prog [("errors.errorType", Rows.laid_errors_errorType), ("doorkeeper/reqline.rules", Rows.laid_doorkeeper_reqline_rules)] W := h
theorem roots_of_laid {W : World} (h : laidMetH Tryd.prog Rows.reqlineSpacesUptoRow.laid W) : ErrT W ∧ RulesT W ∧ OthersT W := by
  obtain ⟨h1, h2⟩ := parts h
  refine ⟨?_, ?_, ?_⟩
  · obtain ⟨name, u, ty, e1, e2, e3, e4, e5⟩ := h2 _ List.mem_cons_self
    have en : name = [101, 114, 114, 111, 114] := (Option.some.inj e1).symm
    subst en
    obtain rfl := Option.some.inj (rt.symm.trans e2)
    have hm : ty ∈ (List.range 150).filter fun t => Tryd.prog.rowNamed t [101, 114, 114, 111, 114] := List.mem_filter.2 ⟨List.mem_range.2 (by rw [← tsize]; exact e3), e4⟩
    rw [oneRow] at hm
    obtain rfl := List.mem_singleton.1 hm
    have hh : typeHandle Tryd.prog 26 = .pointer (some ⟨6, 26, none⟩) := by kernel_rfl
    rw [hh] at e5
    simpa [ErrT, errT] using World.var?_cell et e5 0
  · have hf : funcsAt Tryd.prog W "doorkeeper/reqline.rules" ((Rows.laid_doorkeeper_reqline_rules (H := Unit)).funcsIn?.getD .nil) := h2 ("doorkeeper/reqline.rules", Rows.laid_doorkeeper_reqline_rules) (List.mem_cons_of_mem _ List.mem_cons_self)
    exact rules_of hf (D := [.agg [.lit (.int .i64 0), .held [100, 111, 111, 114, 107, 101, 101, 112, 101, 114, 47, 111, 99, 116, 101, 116, 46, 73, 115, 84, 111, 107, 101, 110], .lit (.int .i64 400)], .agg [.lit (.int .i64 1), .held [100, 111, 111, 114, 107, 101, 101, 112, 101, 114, 47, 114, 101, 113, 108, 105, 110, 101, 46, 114, 117, 108, 101, 115, 36, 49], .lit (.int .i64 400)], .agg [.lit (.int .i64 2), .held [100, 111, 111, 114, 107, 101, 101, 112, 101, 114, 47, 114, 101, 113, 108, 105, 110, 101, 46, 118, 101, 114, 115, 105, 111, 110], .lit (.int .i64 400)], .agg [.lit (.int .i64 2), .held [100, 111, 111, 114, 107, 101, 101, 112, 101, 114, 47, 114, 101, 113, 108, 105, 110, 101, 46, 115, 117, 112, 112, 111, 114, 116, 101, 100], .lit (.int .i64 505)]]) (by kernel_rfl) (by kernel_rfl) (by kernel_rfl) rfl (by kernel_rfl) (by kernel_rfl) (by kernel_rfl) (by kernel_rfl)
  · exact laid_array_strs h1 (nm := "doorkeeper/reqline.others") (d := Rows.laid_doorkeeper_reqline_others) (L := othersL) (List.mem_cons_of_mem _ List.mem_cons_self) rfl (by kernel_rfl) (by kernel_rfl) Tryd.underlying59 Tryd.underlying9 (by kernel_rfl) (by kernel_rfl)
def laidObj (vs : List Value) : Obj → Obj
  | .cells _ t frozen => .cells vs.toArray t frozen
  | o => o
noncomputable def laidWorld (os : Os) : World :=
  let w0 := World.holding Tryd.prog os ⟨#[], #[], []⟩
  { w0 with heap := (((((w0.heap.modify 5 (laidObj (flat2 Rows.laid_unicode_utf8_acceptRanges))).modify 1 (laidObj (othersL.map strV))).modify 4 (laidObj (flat2 Rows.laid_unicode_utf8_first))).modify 2 (laidObj [errT])).modify 0 (laidObj ruleC)) }
theorem laidWorld_met (os : Os) (args : Array Value) : laidMetH Tryd.prog Rows.reqlineSpacesUptoRow.laid ((laidWorld os).forCall (fun _ _ => 0) ⟨#[], args, []⟩).memory :=
  laidMetH_of_parts3 (fuel := 8) (laidMet_of_run (ps := MemPlace.row ⟨5, 0, none⟩ 32 ++ MemPlace.row ⟨1, 0, none⟩ 6 ++ MemPlace.row ⟨4, 0, none⟩ 256) 8 (by kernel_rfl) (by kernel_rfl) (by kernel_rfl)) (by kernel_rfl) (by kernel_rfl)
theorem lifted (os : Os) (started : os.Started) (H : Type) (enc : TypeId × Value → H) (F : Stop.Interp) :
    ReturnsInHanded {} Tryd.checked os 6 .any (fun w args => ((Rows.OpenSpec.upto Rows.reqlineSpacesSpec).pre enc Tryd.prog Tryd.f6 Rows.reqlineSpacesUptoRow.domain false w args ∧ laidMetH Tryd.prog Rows.reqlineSpacesUptoRow.laid w) ∧ sizedMet enc Tryd.prog Tryd.f6 (Rows.OpenSpec.upto Rows.reqlineSpacesSpec) false w args) (((Rows.OpenSpec.upto Rows.reqlineSpacesSpec).at F).post enc Tryd.prog Tryd.f6 false true false false) := by
  refine handed_of_cond_and (C := Tryd.checked) (s := (Rows.OpenSpec.upto Rows.reqlineSpacesSpec)) (k := Rows.uptoSmall) rfl (X := fun w _ => laidMetH Tryd.prog Rows.reqlineSpacesUptoRow.laid w) (fun _ _ _ hh h => h.of_heap hh) own started (by kernel_rfl) Tryd.func6
    (cond_witness_at (enc := enc) (C := Tryd.checked) (os := os) (s := (Rows.OpenSpec.upto Rows.reqlineSpacesSpec)) (k := Rows.uptoSmall) rfl (X := fun w _ => laidMetH Tryd.prog Rows.reqlineSpacesUptoRow.laid w) false (laidWorld os) #[(.string ⟨#[]⟩), (.int .u16 0)] 8 rfl (by kernel_rfl) (by kernel_rfl) (by kernel_rfl) ([.lit (.string []), .lit (.int .u16 0)], [], []) (by kernel_rfl) (by kernel_rfl) (by kernel_rfl) (by kernel_rfl) (laidWorld_met os _)) ?_
  intro W base args ds gs before hval0 hW hcnd hsm hL _
  have hg := roots_of_laid hL
  have hval : ∀ (j : Nat) t v, Tryd.f6.params[j]? = some t → args[j]? = some v → Value.okWide Tryd.prog W .any base t v := hval0
  have hW' := hW
  obtain ⟨p, q, hA0, hV, rfl, hfz, hnd⟩ := hW
  have hA : DataW.TrodAll enc Tryd.prog W 0 (fun _ => true) true Tryd.f6.params.toList args.toList ds p := hA0
  rw [Tryd.params6] at hA hval
  obtain ⟨v0, vs0, d0, ds0, p0, q0, hargs, rfl, rfl, h0, r0⟩ := trodAll_cons hA
  obtain ⟨v1, vs1, d1, ds1, p1, q1, rfl, rfl, rfl, h1, r1⟩ := trodAll_cons r0
  obtain ⟨rfl, rfl, rfl⟩ := trodAll_nil r1
  obtain rfl : args = #[v0, v1] := by cases args; simp_all
  obtain ⟨rfl, rfl⟩ := trodVars_none hV
  have k0 := h0
  have lt0 : ∀ x ∈ p0, x.block < W.heap.size := by obtain ⟨m, hm⟩ := k0; exact DataW.trod_lt m _ _ _ hm
  have k1 := h1
  have lt1 : ∀ x ∈ p1, x.block < W.heap.size := by obtain ⟨m, hm⟩ := k1; exact DataW.trod_lt m _ _ _ hm
  obtain ⟨bb0, rfl, rfl, rfl, bd0⟩ := open_string Tryd.underlying9 (hval 0 9 v0 rfl rfl) h0
  obtain ⟨s, rfl⟩ : ∃ l : List UInt8, bb0 = ⟨l.toArray⟩ := ⟨bb0.data.toList, by simp⟩
  obtain ⟨at1, rfl, rfl, rfl, bd1⟩ := open_int Tryd.underlying41 (hval 1 41 v1 rfl rfl) h1
  have in1 := bd_u16 bd1
  clear hA0 hval0
  refine (ReqlineSpaces_walk W hg.1 hg.2.1 hg.2.2 s at1 in1 (by have hq := of_decide_eq_true hsm; simp [Rows.uptoBulkAll, Rows.uptoBulk] at hq; omega)).2.mono fun e W' ⟨v, he, hv, hh⟩ => ?_
  subst he; subst hv
  have bel := hh.below
  exact ⟨_, rfl, _, _, _, [], _, [], hW', trodAll_mk1 (shut_bool Tryd.underlying4 _), (trodAll_cons_mk (Below.trod laidOut (by kernel_rfl) (of_decide_eq_true (by kernel_rfl)) k0 bel lt0) (trodAll_cons_mk (Below.trod laidOut (by kernel_rfl) (of_decide_eq_true (by kernel_rfl)) k1 bel lt1) trodAll_mk0)), rfl, bel.frame _, fun h => by cases h⟩
theorem over : Rows.reqlineSpacesUptoRow.holds Tryd.pinned (Rows.OpenSpec.upto Rows.reqlineSpacesSpec) :=
  OpenClaim.holds_of_cond 6 Tryd.f6 rfl rfl rfl rfl rfl rfl rfl ⟨rfl, rfl, rfl, rfl, rfl⟩ rfl rfl rfl rfl rfl (by kernel_rfl) Tryd.func6 (by kernel_rfl)
    (of_decide_eq_true (by kernel_rfl)) (by unfold Func.isWrapper; first | (rw [if_pos (by decide +kernel)]; kernel_rfl) | (rw [if_neg (by decide +kernel)]; exact ⟨rfl, rfl⟩))
    (fun os started H enc _ F => lifted os started H enc F)
theorem proved : Rows.ReqlineSpacesUptoCardSaid :=
  Claim7.holds_tied_plain_at .later [] [.data, .handle, .widerDeep, .funcs, .pinned] true (true, "e11714903efcc31f0c197978676e15470b2d99dfe189ea140f37a6fbf83795e6") true
    over (fun _ h => by cases h) (by kernel_rfl) (fun _ h => by cases h) reqlineSpacesUpto_row_tie rfl ⟨rfl, rfl⟩ (by kernel_rfl) rfl
    (fun f fn hf hfn => by
      obtain rfl : f = 6 := Option.some.inj ((show Tryd.prog.funcNamed "doorkeeper/doorkeeperlaw10.ReqlineSpaces" = some 6 by kernel_rfl).symm.trans hf) |>.symm
      obtain rfl : fn = Tryd.f6 := (Option.some.inj (Tryd.func6.symm.trans hfn)).symm
      exact ⟨by kernel_rfl, fun j t ht => by
        rw [Tryd.params6] at ht
        have h3 := Array.mem_of_getElem? ht
        simp only [List.mem_toArray, List.mem_cons, List.not_mem_nil, or_false] at h3
        rcases h3 with rfl | rfl
        · exact (show Tryd.prog.wantsStandIn 9 = false by kernel_rfl)
        · exact (show Tryd.prog.wantsStandIn 41 = false by kernel_rfl)⟩)
    (by kernel_rfl)
#print axioms proved
end Go.Proofs.YtcanebnegfnhdaaDoor.reqlineSpacesUpto
